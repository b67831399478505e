/-
  Part 15 of the proof of QJ: the texts FA FB.
-/
import Derived.Test.YtboccjdncdaakaaK12
import Derived.Test.YtboccjdncdaakaaK14

/-
  Layer 11: Daq as an object; New, free, alloc, list, table, walked.
-/

set_option linter.unusedVariables false
set_option maxRecDepth 100000
namespace Go.Proofs.Ytboccjdncdaakaa
open Go.RowKit
attribute [local irreducible] TL TC TQ TK TO Qt TA
/-- Daq: its step, its lists, its pointer. -/
structure DqV where
  step : Nat
  A : Option Addr
  c : Nat
  xs : List LstV
  pv : Option (Nat × Nat × Nat × Nat)
def ptV : Option (Nat × Nat × Nat × Nat) → Value
  | none => .pointer none
  | some y => .pointer (some ⟨y.1, 0, none⟩)
def ptA : Option (Nat × Nat × Nat × Nat) → Asn
  | none => emp
  | some y => blk y.1 [.int .i64 y.2.1, .int .i64 y.2.2.1, .int .i64 y.2.2.2] 125
def dqL (p : Nat) (d : DqV) : List Asn := [blk p [.int .i64 4, .int .i64 d.step, .slice d.A d.xs.length d.c, ptV d.pv] 98, row 27 8 (.slice d.A d.xs.length d.c) d.xs.length (d.xs.flatMap lstCells), starL (d.xs.map tblA), ptA d.pv]
def lsOf (d : DqV) : List ListI := d.xs.map (·.l)
structure DqOk (d : DqV) : Prop where
  len : d.xs.length ≤ 4
  step : d.step ≤ 3
  tot : totT (lsOf d) ≤ 16
  lists : ∀ x ∈ d.xs, LOk x.l
  free : d.step = 0 → d.xs = []
  ptr : ∀ y, d.pv = some y → ∃ x t, d.xs[y.2.1]? = some x ∧ x.l.tabs[y.2.2.1]? = some t ∧ y.2.2.2 < t.length
def Off (d : DqV) : Prop := ∀ x ∈ d.xs, x.l.on = false
def l0 : ListI := ⟨0, [], false, 0, 1, 0, false, false⟩
/-- What a command makes of lists of which none runs, if it is done. -/
structure StepL (c : CmdV) (L L' : List ListI) : Prop where
  alloc : c.code = 19 → L' = List.replicate c.a0 l0
  lay : 20 ≤ c.code → c.code ≤ 23 → L'.length = L.length
  mode : c.code = 24 → ∃ l, L[c.a0]? = some l ∧ L' = L.set c.a0 ⟨l.first, l.tabs, decide (c.a1 = 1), c.a2, c.a3, c.a4, l.on, l.ch⟩
  start : c.code = 25 → ∃ l, L[c.a0]? = some l ∧ 0 < l.tabs.length ∧ L' = L.set c.a0 ⟨l.first, l.tabs, l.stim, l.ev, l.pre, l.pri, l.on, true⟩
  all : c.code = 26 → L' = L.map fun l => ⟨l.first, l.tabs, l.stim, l.ev, l.pre, l.pri, l.ch, false⟩
def DoOut (p : Nat) (c : CmdV) (d : DqV) (v : Value) (B : List Asn) : Prop := (∃ (u : Value) (e : Int), v = .tuple #[u, .int .i64 e] ∧ e ≠ 0) ∨ ∃ u d', v = .tuple #[u, .int .i64 0] ∧ B = dqL p d' ∧ DqOk d' ∧ (c.code ≠ 26 → Off d') ∧ StepL c (lsOf d) (lsOf d')
def dq0 : DqV := ⟨0, none, 0, [], none⟩
theorem dq0_ok : DqOk dq0 := ⟨by decide, by decide, by decide, (fun x h => by cases h), (fun _ => rfl), (fun y h => by cases h)⟩
theorem dq0_off : Off dq0 := fun x h => by cases h
theorem emp_st {S : Nat → Prop} {w0 w : World} {F : List Asn} (h : St S w0 F w) : St S w0 (emp :: F) w := st_pure trivial h
theorem dq0_st {S : Nat → Prop} {w0 w : World} {p : Nat} (h : St S w0 [blk p [.int .i64 4, .int .i64 0, .slice none 0 0, .pointer none] 98] w) : St S w0 (dqL p dq0) w := by
  have h1 := st_nil (st_star0 (emp_st h)) 27 8
  exact h1.psub (hp' := [blk p [.int .i64 4, .int .i64 0, .slice none 0 0, .pointer none] 98, row 27 8 (.slice none 0 0) 0 [], starL [], emp]) (by first | ((repeat (first | exact PSub.nil | exact Ext.head | apply Ext.tail | apply PSub.cons)); done) | fail)
/-- Slices, as they must be. -/
structure TvOk (x : LstV) : Prop where
  len : x.tvs.length = x.l.tabs.length
  tv : ∃ At ct, x.tv = .slice At x.tvs.length ct ∧ x.tvs.length ≤ ct ∧ ct ≤ maxLen ∧ (0 < x.tvs.length → ∃ g, At = some ⟨g, 0, none⟩)
  tab : ∀ (k : Nat) v t, x.tvs[k]? = some v → x.l.tabs[k]? = some t → ∃ Ae ce, v = .slice Ae t.length ce ∧ t.length ≤ ce ∧ ce ≤ maxLen ∧ (0 < t.length → ∃ g, Ae = some ⟨g, 0, none⟩)
structure DqSh (d : DqV) : Prop where
  c : d.xs.length ≤ d.c ∧ d.c ≤ maxLen
  A : 0 < d.xs.length → ∃ g, d.A = some ⟨g, 0, none⟩
  tv : ∀ x ∈ d.xs, TvOk x
theorem tv_ok {x : LstV} {w : World} (h : (tblA x).C w) : TvOk x := by
  have hm : Ro (fps []) w (tblA x) := Ro.empty h
  have hl : x.tvs.length = x.l.tabs.length := hm.otLen (y := ⟨x.tv, x.tvs, x.l.tabs⟩)
  have hrow : Ro (fps []) w (row 37 1 x.tv x.tvs.length x.tvs) := Ro.star hm (i := 0) rfl
  obtain ⟨At, ct, e1, e2, e3, e4⟩ := row_slice hrow.is
  refine ⟨hl, ⟨At, ct, e1, e2, e3, fun h0 => ?_⟩, fun k v t hv ht => ?_⟩
  · obtain ⟨g, hg, _⟩ := e4 h0
    exact ⟨g, hg⟩
  · have h1 : Ro (fps []) w (entA v t) := Ro.star (Ro.star hm (i := 2) rfl) (i := k) (by simp [List.getElem?_zipWith, hv, ht])
    obtain ⟨Ae, ce, q1, q2, q3, q4⟩ := row_slice h1.is
    exact ⟨Ae, ce, q1, q2, q3, fun h0 => by obtain ⟨g, hg, _⟩ := q4 h0; exact ⟨g, hg⟩⟩
theorem dq_sh {S : Nat → Prop} {w0 w : World} {p : Nat} {d : DqV} {F : List Asn} (h : St S w0 (dqL p d ++ F) w) : DqSh d := by
  obtain ⟨A, c, e1, e2, e3, e4⟩ := row_slice (h.get (i := 1) rfl)
  injection e1 with e1 e5 e6
  subst e1 e6
  refine ⟨⟨e2, e3⟩, fun h0 => by obtain ⟨g, hg, _⟩ := e4 h0; exact ⟨g, hg⟩, fun x hx => ?_⟩
  obtain ⟨i, hi⟩ := List.mem_iff_getElem?.1 hx
  have h1 : (starL (d.xs.map tblA)).C w := h.get (i := 2) rfl
  exact tv_ok (starL_get h1 (i := i) (by simp [hi]))
theorem rep_st {S : Nat → Prop} {w0 w : World} {F : List Asn} (h : St S w0 F w) : ∀ k : Nat, St S w0 (starL ((List.replicate k l0V).map tblA) :: F) w
  | 0 => st_star0 h
  | k + 1 => by
    rw [List.replicate_succ', List.map_append]
    refine st_snoc ?_
    exact ((ot_nil (rep_st h k)).perm (.refl _))
theorem l0_ok : LOk l0 := ⟨by decide, by decide, by decide, by decide, by decide, fun t h => by cases h⟩
theorem totT_rep (k : Nat) : totT (List.replicate k l0) = 0 := by
  induction k with
  | zero => rfl
  | succ k ih => rw [List.replicate_succ']; rw [totT_snoc, ih]; rfl
attribute [local irreducible] blk row bytesA starL memA segA roB otA entA
set_option maxHeartbeats 4000000 in
theorem dnew_spec (w : World) : Calls Try.prog 14 #[.int .i64 4] w (Ret w [] fun v B => ∃ p, v = .tuple #[.pointer (some ⟨p, 0, none⟩), .int .i64 0] ∧ B = dqL p dq0) := by
  refine enter (vs := [.int .i64 4]) Try.func14 rfl Try.ntmps14 rfl (Hold.nil w) ?_
  (repeat (first | (refine i_dst ?_; (first | (refine i_move ?_; refine l_q rfl rfl rfl (q_move rfl) ?_) | (refine i_assign ?_; refine l_q rfl rfl rfl (q_assign rfl) ?_) | (refine i_bin ?_; refine l_q rfl rfl rfl (by (first | exact q_lss rfl rfl | exact q_gtr rfl rfl)) ?_) | (refine i_box ?_; (refine l_boxA rfl rfl (fun _ => ?_))) | (refine l_q rfl rfl rfl (by (first | exact q_pick_f rfl rfl | (apply iq_bld; ((exact q_bld tab rfl rfl rfl (by first | ((repeat (first | exact FillR.nil | exact LSets.nil | exact LSet.zero | exact CellsOf.agg | exact rfl | exact CellsOf.one rfl | apply FillR.cons | apply LSets.cons | apply LSet.succ)); done) | fail) (fun w => by kernel_rfl)))))) ?_))) | refine d_seq ?_ | refine c_region ?_ | refine l_nil ?_ | (refine i_q ?_; (refine d_then ?_)) | refine c_skip ?_ | refine c_ret ?_ | (refine i_guard ?_; (refine l_gt rfl rfl rfl ?_)) | (refine i_cond ?_; (refine c_cf rfl (by (rfl)) ?_))))
  rename_i b
  exact t_hp (fun w h => dq0_st h) (t_ret2 Try.results14 rfl rfl ⟨b, rfl, rfl⟩)

set_option maxHeartbeats 4000000 in
theorem dfree_spec {p : Nat} {d : DqV} {w : World} (hA : Hold (dqL p d) w) (c : CmdV) (hc : c.code = 18) :
    Calls Try.prog 43 #[.pointer (some ⟨p, 0, none⟩), .agg (cmdC c).toArray] w (Ret w (dqL p d) (DoOut p c d)) := by
  refine enter (vs := [.pointer (some ⟨p, 0, none⟩), .agg (cmdC c).toArray]) Try.func43 rfl Try.ntmps43 rfl hA ?_
  refine c_hp (hp' := [blk p [.int .i64 4, .int .i64 d.step, .slice d.A d.xs.length d.c, ptV d.pv] 98]) (fun w h => h.subl (.keep .nil)) ?_
  simp only [cmdC]
  (repeat (first | (refine i_dst ?_; (first | (refine i_move ?_; refine l_q rfl rfl rfl (q_move rfl) ?_) | (refine i_assign ?_; refine l_q rfl rfl rfl (q_assign rfl) ?_) | (refine i_load ?_; refine l_q rfl rfl rfl (by ((exact q_ld1 tab rfl rfl rfl (by first | ((repeat (first | exact List.Mem.head _ | apply List.Mem.tail)); done) | fail) (by (rfl))))) ?_) | (refine i_box ?_; (refine l_boxA rfl rfl (fun _ => ?_))) | (refine l_q rfl rfl rfl (by (first | (apply iq_fld; (exact q_fieldAddr tab rfl rfl rfl rfl rfl rfl rfl)) | (apply iq_nck; (exact q_nilck rfl)) | (apply iq_bld; ((exact q_bld tab rfl rfl rfl (by first | ((repeat (first | exact FillR.nil | exact LSets.nil | exact LSet.zero | exact CellsOf.agg | exact rfl | exact CellsOf.one rfl | apply FillR.cons | apply LSets.cons | apply LSet.succ)); done) | fail) (fun w => by kernel_rfl)))))) ?_))) | refine d_seq ?_ | refine c_region ?_ | refine l_nil ?_ | (refine i_q ?_; (refine d_then ?_)) | refine c_ret ?_ | (refine i_store ?_; ((refine l_setN tab rfl rfl rfl rfl (List.cons_ne_nil _ _) rfl (by first | ((repeat (first | exact Upd.head | apply Upd.tail)); done) | fail) (by first | ((repeat (first | exact LSets.nil | exact LSet.zero | apply LSets.cons | apply LSet.succ)); done) | fail) ?_)))))
  exact t_hp (hp' := dqL p dq0) (fun w h => dq0_st (h.psub (by first | ((repeat (first | exact PSub.nil | exact Ext.head | apply Ext.tail | apply PSub.cons)); done) | fail))) (t_ret2 Try.results43 rfl rfl (.inr ⟨_, dq0, rfl, rfl, dq0_ok, fun _ => dq0_off, ⟨by omega, by omega, by omega, by omega, by omega⟩⟩))

set_option maxHeartbeats 8000000 in
theorem dalloc_spec {p : Nat} {d : DqV} {w : World} (hA : Hold (dqL p d) w) (hok : DqOk d) (c : CmdV) (hc : c.code = 19) (hcok : c.Ok) :
    Calls Try.prog 44 #[.pointer (some ⟨p, 0, none⟩), .agg (cmdC c).toArray] w (Ret w (dqL p d) (DoOut p c d)) := by
  have hmx : maxLen = 2 ^ 63 - 1 := rfl
  have ha0 := hcok.a0
  have hst := hok.step
  refine enter (vs := [.pointer (some ⟨p, 0, none⟩), .agg (cmdC c).toArray]) Try.func44 rfl Try.ntmps44 rfl hA ?_
  refine c_hp (hp' := [blk p [.int .i64 4, .int .i64 d.step, .slice d.A d.xs.length d.c, ptV d.pv] 98]) (fun w h => h.subl (.keep .nil)) ?_
  simp only [cmdC]
  by_cases h0 : d.step = 0
  · have hpv : d.pv = none := by
      cases hq : d.pv with
      | none => rfl
      | some y =>
        obtain ⟨x, t, h1, -⟩ := hok.ptr y hq
        rw [hok.free h0] at h1
        simp at h1
    by_cases h4 : c.a0 ≤ 4
    · (repeat (first | (refine i_dst ?_; (first | (refine i_move ?_; refine l_q rfl rfl rfl (q_move rfl) ?_) | (refine i_assign ?_; refine l_q rfl rfl rfl (q_assign rfl) ?_) | (refine i_load ?_; refine l_q rfl rfl rfl (by ((exact q_ld1 tab rfl rfl rfl (by first | ((repeat (first | exact List.Mem.head _ | apply List.Mem.tail)); done) | fail) (by (rfl))))) ?_) | (refine i_bin ?_; refine l_q rfl rfl rfl (by (first | exact q_neq rfl rfl | exact q_gtr rfl rfl)) ?_) | (refine i_ix ?_; refine l_q rfl rfl rfl (by (exact q_indexAddrA1 tab rfl rfl rfl rfl (by omega))) ?_) | (refine i_box ?_; (refine l_boxA rfl rfl (fun _ => ?_))) | (refine i_bldS ?_; refine l_bldS tab rfl rfl rfl rfl (by first | exact CellsOf.agg | exact CellsOf.one rfl) (by first | ((repeat (first | exact RepR.zero | exact AppR.nil | apply RepR.succ | apply AppR.cons)); done) | fail) (by first | ((repeat (first | exact FillR.nil | exact LSets.nil | exact LSet.zero | exact CellsOf.agg | exact rfl | exact CellsOf.one rfl | apply FillR.cons | apply LSets.cons | apply LSet.succ)); done) | fail) (fun w => by kernel_rfl) (fun _ => ?_)) | (refine l_q rfl rfl rfl (by (first | (apply iq_fld; (exact q_fieldAddr tab rfl rfl rfl rfl rfl rfl rfl)) | (apply iq_nck; (exact q_nilck rfl)) | (apply iq_cv; (exact q_conv tab rfl rfl rfl (by (exact wr_i64 (by omega))))) | (apply iq_bld; ((exact q_bld tab rfl rfl rfl (by first | ((repeat (first | exact FillR.nil | exact LSets.nil | exact LSet.zero | exact CellsOf.agg | exact rfl | exact CellsOf.one rfl | apply FillR.cons | apply LSets.cons | apply LSet.succ)); done) | fail) (fun w => by kernel_rfl)))))) ?_))) | refine d_seq ?_ | refine c_region ?_ | refine l_nil ?_ | refine c_block ?_ | (refine i_q ?_; (first | refine d_then ?_ | refine t_block ?_)) | refine c_skip ?_ | (refine i_cond ?_; (refine c_cf rfl (by (exact decide_eq_false (by omega))) ?_))))
      rename_i b3 g1
      (refine l_call0 rfl rfl Try.func59 rfl (by decide) (fun w' h => drepeat_spec c.a0 h4 (Ro.empty (h.mem (X := blk g1 [.int .i64 0, .slice none 0 0, .bool false, .int .u8 0, .int .u8 1, .int .u8 0, .bool false, .bool false] 27) (by first | ((repeat (first | exact List.Mem.head _ | apply List.Mem.tail)); done) | fail)))) (fun v B hv => ?_); obtain ⟨A1, c1, rfl, rfl⟩ := hv)
      (repeat (first | (refine i_dst ?_; (first | (refine i_assign ?_; refine l_q rfl rfl rfl (q_assign rfl) ?_) | (refine l_q rfl rfl rfl (by (first | (apply iq_fld; (exact q_fieldAddr tab rfl rfl rfl rfl rfl rfl rfl)) | (apply iq_nck; (exact q_nilck rfl)))) ?_))) | refine d_seq ?_ | refine c_region ?_ | refine l_nil ?_ | (refine i_q ?_; (refine d_then ?_)) | refine c_ret ?_ | (refine i_store ?_; ((refine l_set tab rfl rfl rfl rfl (by first | ((repeat (first | exact Upd.head | apply Upd.tail)); done) | fail) (by first | ((repeat (first | exact LSet.zero | apply LSet.succ)); done) | fail) ?_)))))
      refine t_hp (hp' := dqL p ⟨1, A1, c1, List.replicate c.a0 l0V, none⟩) (fun w h => ?_) (t_ret2 Try.results44 rfl rfl (.inr ⟨_, _, rfl, rfl, ⟨?_, by dsimp only; omega, ?_, fun x hx => ?_, (fun h => by cases h), (fun y h => by cases h)⟩, fun _ x hx => ?_, ⟨fun _ => ?_, by omega, by omega, by omega, by omega⟩⟩))
      · rw [hpv] at h
        unfold dqL
        dsimp only [ptV, ptA]
        rw [List.length_replicate]
        have h1 := rep_st (emp_st h) c.a0
        exact h1.psub (by first | ((repeat (first | exact PSub.nil | exact Ext.head | apply Ext.tail | apply PSub.cons)); done) | fail)
      · simp; omega
      · rw [lsOf, List.map_replicate]
        show totT (List.replicate c.a0 l0) ≤ 16
        rw [totT_rep]
        omega
      · rw [List.eq_of_mem_replicate hx]
        exact l0_ok
      · rw [List.eq_of_mem_replicate hx]
        rfl
      · rw [lsOf, List.map_replicate]
        rfl
    · (repeat (first | (refine i_dst ?_; (first | (refine i_move ?_; refine l_q rfl rfl rfl (q_move rfl) ?_) | (refine i_assign ?_; refine l_q rfl rfl rfl (q_assign rfl) ?_) | (refine i_load ?_; refine l_q rfl rfl rfl (by ((exact q_ld1 tab rfl rfl rfl (by first | ((repeat (first | exact List.Mem.head _ | apply List.Mem.tail)); done) | fail) (by (rfl))))) ?_) | (refine i_bin ?_; refine l_q rfl rfl rfl (by (first | exact q_neq rfl rfl | exact q_gtr rfl rfl)) ?_) | (refine i_ix ?_; refine l_q rfl rfl rfl (by (exact q_indexAddrA1 tab rfl rfl rfl rfl (by omega))) ?_) | (refine i_box ?_; (refine l_boxA rfl rfl (fun _ => ?_))) | (refine l_q rfl rfl rfl (by (first | (apply iq_fld; (exact q_fieldAddr tab rfl rfl rfl rfl rfl rfl rfl)) | (apply iq_nck; (exact q_nilck rfl)))) ?_))) | refine d_seq ?_ | refine c_region ?_ | refine l_nil ?_ | refine c_block ?_ | (refine i_q ?_; (first | refine d_then ?_ | refine d_then_ret ?_ | refine t_block_ret ?_)) | refine c_ret ?_ | (refine i_cond ?_; (first | refine c_ct rfl (by (exact decide_eq_true (by omega))) ?_ | refine c_cf rfl (by (exact decide_eq_false (by omega))) ?_))))
      exact t_hp (hp' := []) (fun w h => h.psub (by first | ((repeat (first | exact PSub.nil | exact Ext.head | apply Ext.tail | apply PSub.cons)); done) | fail)) (t_ret2 Try.results44 rfl rfl (.inl ⟨_, _, rfl, by omega⟩))
  · (repeat (first | (refine i_dst ?_; (first | (refine i_move ?_; refine l_q rfl rfl rfl (q_move rfl) ?_) | (refine i_assign ?_; refine l_q rfl rfl rfl (q_assign rfl) ?_) | (refine i_load ?_; refine l_q rfl rfl rfl (by ((exact q_ld1 tab rfl rfl rfl (by first | ((repeat (first | exact List.Mem.head _ | apply List.Mem.tail)); done) | fail) (by (rfl))))) ?_) | (refine i_bin ?_; refine l_q rfl rfl rfl (by (exact q_neq rfl rfl)) ?_) | (refine i_box ?_; (refine l_boxA rfl rfl (fun _ => ?_))) | (refine l_q rfl rfl rfl (by (first | (apply iq_fld; (exact q_fieldAddr tab rfl rfl rfl rfl rfl rfl rfl)) | (apply iq_nck; (exact q_nilck rfl)))) ?_))) | refine d_seq ?_ | refine c_region ?_ | refine l_nil ?_ | refine c_block ?_ | (refine i_q ?_; (first | refine d_then ?_ | refine d_then_ret ?_ | refine t_block_ret ?_)) | refine c_ret ?_ | (refine i_cond ?_; (refine c_ct rfl (by (exact decide_eq_true (by omega))) ?_))))
    exact t_hp (hp' := []) (fun w h => h.psub (by first | ((repeat (first | exact PSub.nil | exact Ext.head | apply Ext.tail | apply PSub.cons)); done) | fail)) (t_ret2 Try.results44 rfl rfl (.inl ⟨_, _, rfl, by omega⟩))

set_option maxHeartbeats 4000000 in
theorem dlist_spec {p : Nat} {A : Option Addr} {n c : Nat} {v0 v1 v3 : Value} {w : World} (hb : Ro (fps []) w (blk p [v0, v1, .slice A n c, v3] 98)) (hA : 0 < n → ∃ g, A = some ⟨g, 0, none⟩) (i : Nat) (hi : i ≤ 255) :
    Calls Try.prog 60 #[.pointer (some ⟨p, 0, none⟩), .int .u8 i] w (Ret w [] fun v B => v = (if i < n then .pointer (adr A (i * 8)) else .pointer none) ∧ B = []) := by
  refine enter (vs := [.pointer (some ⟨p, 0, none⟩), .int .u8 i]) Try.func60 rfl Try.ntmps60 rfl (Hold.nil w) ?_
  by_cases hlt : i < n
  · obtain ⟨g, rfl⟩ := hA (by omega)
    rw [if_pos hlt, adr_some]
    (repeat (first | (refine i_dst ?_; (first | (refine i_move ?_; refine l_q rfl rfl rfl (q_move rfl) ?_) | (refine i_assign ?_; refine l_q rfl rfl rfl (q_assign rfl) ?_) | (refine i_load ?_; refine l_q rfl rfl rfl (by (exact q_ldRo tab rfl rfl rfl (by assumption) rfl)) ?_) | (refine i_bin ?_; refine l_q rfl rfl rfl (by (exact q_geq rfl rfl)) ?_) | (refine i_blt ?_; refine l_q rfl rfl rfl (by (exact q_len tab rfl rfl)) ?_) | (refine i_ix ?_; refine l_q rfl rfl rfl (by (exact q_indexAddr tab rfl rfl rfl rfl (by omega))) ?_) | (refine l_q rfl rfl rfl (by (first | (apply iq_fld; (exact q_fieldAddr tab rfl rfl rfl rfl rfl rfl rfl)) | (apply iq_nck; (exact q_nilck rfl)) | (apply iq_cv; (exact q_conv tab rfl rfl rfl (by (exact wr_i64 (by omega))))))) ?_))) | refine d_seq ?_ | refine c_region ?_ | refine l_nil ?_ | (refine i_q ?_; (refine d_then ?_)) | refine c_skip ?_ | refine c_ret ?_ | (refine i_cond ?_; (refine c_cf rfl (by (exact decide_eq_false (by omega))) ?_))))
    exact t_ret1 Try.results60 rfl ⟨by rw [Int.toNat_natCast], rfl⟩
  · rw [if_neg hlt]
    (repeat (first | (refine i_dst ?_; (first | (refine i_move ?_; refine l_q rfl rfl rfl (q_move rfl) ?_) | (refine i_assign ?_; refine l_q rfl rfl rfl (q_assign rfl) ?_) | (refine i_load ?_; refine l_q rfl rfl rfl (by (exact q_ldRo tab rfl rfl rfl (by assumption) rfl)) ?_) | (refine i_bin ?_; refine l_q rfl rfl rfl (by (exact q_geq rfl rfl)) ?_) | (refine i_blt ?_; refine l_q rfl rfl rfl (by (exact q_len tab rfl rfl)) ?_) | (refine l_q rfl rfl rfl (by (first | (apply iq_fld; (exact q_fieldAddr tab rfl rfl rfl rfl rfl rfl rfl)) | (apply iq_nck; (exact q_nilck rfl)) | (apply iq_cv; (exact q_conv tab rfl rfl rfl (by (exact wr_i64 (by omega))))))) ?_))) | refine d_seq ?_ | refine c_region ?_ | refine l_nil ?_ | (refine i_q ?_; (first | refine d_then ?_ | refine d_then_ret ?_)) | refine c_ret ?_ | (refine i_cond ?_; (refine c_ct rfl (by (exact decide_eq_true (by omega))) ?_))))
    exact t_ret1 Try.results60 rfl ⟨rfl, rfl⟩

set_option maxHeartbeats 4000000 in
theorem dtable_spec {p : Nat} {A : Option Addr} {n c : Nat} {v0 v1 v3 : Value} {xs : List LstV} {w : World} (hb : Ro (fps []) w (blk p [v0, v1, .slice A n c, v3] 98)) (hrow : Ro (fps []) w (row 27 8 (.slice A n c) n (xs.flatMap lstCells))) (hn : xs.length = n) (hA : 0 < n → ∃ g, A = some ⟨g, 0, none⟩) (htv : ∀ x ∈ xs, TvOk x) (i k : Nat) (hi : i ≤ 255) (hk : k ≤ 255) :
    Calls Try.prog 61 #[.pointer (some ⟨p, 0, none⟩), .int .u8 i, .int .u8 k] w (Ret w [] fun v B => ((v = .pointer none ∧ ∀ x, xs[i]? = some x → x.tvs.length ≤ k) ∨ ∃ x At ct, xs[i]? = some x ∧ k < x.tvs.length ∧ x.tv = .slice At x.tvs.length ct ∧ v = .pointer (adr At k)) ∧ B = []) := by
  refine enter (vs := [.pointer (some ⟨p, 0, none⟩), .int .u8 i, .int .u8 k]) Try.func61 rfl Try.ntmps61 rfl (Hold.nil w) ?_
  have hrv := hrow.rowV
  (repeat (first | (refine i_dst ?_; (first | (refine i_move ?_; refine l_q rfl rfl rfl (q_move rfl) ?_) | (refine i_assign ?_; refine l_q rfl rfl rfl (q_assign rfl) ?_))) | refine d_seq ?_ | refine c_region ?_ | refine l_nil ?_ | (refine i_q ?_; (refine d_then ?_))))
  (refine l_call0 rfl rfl Try.func60 rfl (by decide) (fun w' h => dlist_spec (roOf0 h hb) hA i hi) (fun v B hv => ?_); obtain ⟨rfl, rfl⟩ := hv)
  by_cases hlt : i < n
  · obtain ⟨x, hx⟩ : ∃ x, xs[i]? = some x := ⟨_, List.getElem?_eq_getElem (by omega)⟩
    obtain ⟨hl, ⟨At, ct, h1, h2, h3, h4⟩, -⟩ := htv x (List.mem_of_getElem? hx)
    obtain ⟨g, rfl⟩ := hA (by omega)
    rw [if_pos hlt]
    have hcell : ∀ hp w', St (fps []) w hp w' → w'.cell? ⟨g, 0 + i * 8 + 1, none⟩ = some (.slice At x.tvs.length ct) := fun hp w' h => by
      have h5 := row_cells (h.ro hrow) rfl (i * 8 + 1) (.slice At x.tvs.length ct) (flat_get len_lst hx (by rw [lstCells, h1]; rfl))
      rw [Nat.zero_add] at h5 ⊢
      exact h5
    rw [adr_some]
    by_cases hkl : k < x.tvs.length
    · obtain ⟨gt, rfl⟩ := h4 (by omega)
      (repeat (first | (refine i_dst ?_; (first | (refine i_move ?_; refine l_q rfl rfl rfl (q_move rfl) ?_) | (refine i_assign ?_; refine l_q rfl rfl rfl (q_assign rfl) ?_) | (refine i_load ?_; refine l_q rfl rfl rfl (by (exact q_ldc tab rfl rfl rfl (by assumption))) ?_) | (refine i_bin ?_; refine l_q rfl rfl rfl (by (first | exact q_geq rfl rfl | exact q_eqnil tab rfl rfl rfl)) ?_) | (refine i_blt ?_; refine l_q rfl rfl rfl (by (exact q_len tab rfl rfl)) ?_) | (refine i_ix ?_; refine l_q rfl rfl rfl (by (exact q_indexAddr1 tab rfl rfl rfl rfl (by omega))) ?_) | (refine l_q rfl rfl rfl (by (first | (apply iq_fld; (exact q_fieldAddr tab rfl rfl rfl rfl rfl rfl rfl)) | (apply iq_nck; (exact q_nilck rfl)) | (apply iq_cv; (exact q_conv tab rfl rfl rfl (by (exact wr_i64 (by omega))))) | exact q_pick_f rfl rfl)) ?_))) | refine d_seq ?_ | refine c_region ?_ | refine l_nil ?_ | (refine i_q ?_; (refine d_then ?_)) | refine c_skip ?_ | refine c_ret ?_ | (refine i_guard ?_; (refine l_gt rfl rfl rfl ?_)) | (refine i_cond ?_; (refine c_cf rfl (by (exact decide_eq_false (by omega))) ?_))))
      exact t_ret1 Try.results61 rfl ⟨.inr ⟨x, _, ct, hx, hkl, h1, by rw [adr_some, Int.toNat_natCast]⟩, rfl⟩
    · (repeat (first | (refine i_dst ?_; (first | (refine i_move ?_; refine l_q rfl rfl rfl (q_move rfl) ?_) | (refine i_assign ?_; refine l_q rfl rfl rfl (q_assign rfl) ?_) | (refine i_load ?_; refine l_q rfl rfl rfl (by (exact q_ldc tab rfl rfl rfl (by assumption))) ?_) | (refine i_bin ?_; refine l_q rfl rfl rfl (by (first | exact q_geq rfl rfl | exact q_eqnil tab rfl rfl rfl)) ?_) | (refine i_blt ?_; refine l_q rfl rfl rfl (by (exact q_len tab rfl rfl)) ?_) | (refine l_q rfl rfl rfl (by (first | (apply iq_fld; (exact q_fieldAddr tab rfl rfl rfl rfl rfl rfl rfl)) | (apply iq_nck; (exact q_nilck rfl)) | (apply iq_cv; (exact q_conv tab rfl rfl rfl (by (exact wr_i64 (by omega))))) | exact q_pick_f rfl rfl)) ?_))) | refine d_seq ?_ | refine c_region ?_ | refine l_nil ?_ | (refine i_q ?_; (first | refine d_then ?_ | refine d_then_ret ?_)) | refine c_ret ?_ | (refine i_guard ?_; (refine l_gt rfl rfl rfl ?_)) | (refine i_cond ?_; (refine c_ct rfl (by (exact decide_eq_true (by omega))) ?_))))
      exact t_ret1 Try.results61 rfl ⟨.inl ⟨rfl, fun y hy => by rw [hx] at hy; injection hy with hy; subst hy; omega⟩, rfl⟩
  · rw [if_neg hlt]
    (repeat (first | (refine i_dst ?_; (first | (refine i_move ?_; refine l_q rfl rfl rfl (q_move rfl) ?_) | (refine i_assign ?_; refine l_q rfl rfl rfl (q_assign rfl) ?_) | (refine i_bin ?_; refine l_q rfl rfl rfl (by (exact q_eqnil tab rfl rfl rfl)) ?_) | refine l_q rfl rfl rfl (by (exact q_pick_t rfl rfl)) ?_)) | refine d_seq ?_ | refine c_region ?_ | refine l_nil ?_ | (refine i_q ?_; (first | refine d_then ?_ | refine d_then_ret ?_)) | refine c_ret ?_ | (refine i_guard ?_; (refine l_gf rfl rfl rfl rfl rfl rfl ?_)) | (refine i_cond ?_; (refine c_ct rfl (by (rfl)) ?_))))
    exact t_ret1 Try.results61 rfl ⟨.inl ⟨rfl, fun y hy => by have := (List.getElem?_eq_some_iff.1 hy).1; omega⟩, rfl⟩
end Go.Proofs.Ytboccjdncdaakaa

/-
  Layer 11: odts and entries, walked.
-/

set_option linter.unusedVariables false
set_option maxRecDepth 100000
namespace Go.Proofs.Ytboccjdncdaakaa
open Go.RowKit
attribute [local irreducible] TL TC TQ TK TO Qt TA
theorem make_ent (m : Nat) (hm : m ≤ 7) (w : World) : (Instr.makeSlice 37 (.int .u8 m) (.int .u8 m)).run Try.prog w = .ok (.slice (some ⟨w.heap.size, 0, none⟩) m m) (w.alloc (.cells ((List.replicate m (⟨0, 0, 0⟩ : EntryI)).flatMap enC).toArray 44)) := by
  rcases (by omega : m = 0 ∨ m = 1 ∨ m = 2 ∨ m = 3 ∨ m = 4 ∨ m = 5 ∨ m = 6 ∨ m = 7) with rfl | rfl | rfl | rfl | rfl | rfl | rfl | rfl <;> kernel_rfl
section
variable {S : Nat → Prop} {w0 w : World} {F : List Asn}
/-- One of a star, another one. -/
theorem st_repl {X : Asn} {l : List Asn} {i : Nat} (hi : i < l.length) (h : St S w0 (X :: starL l :: F) w) : St S w0 (starL (l.set i X) :: F) w := by
  have hl : l[i]? = some l[i] := List.getElem?_eq_getElem hi
  have h1 : St S w0 (l[i] :: X :: starL (l.set i emp) :: F) w := st_take (j := 1) (i := i) h rfl hl
  exact st_back hl (h1.subl (.skip (SubL.refl _)))
theorem set_map_tbl {xs : List LstV} {i : Nat} {x : LstV} : (xs.map tblA).set i (tblA x) = (xs.set i x).map tblA := by rw [List.map_set]
/-- One list's tables, laid open, and shut. -/
theorem tbl_focus {xs : List LstV} {i : Nat} {x : LstV} (hi : xs[i]? = some x) (h : St S w0 (starL (xs.map tblA) :: F) w) : St S w0 (row 37 1 x.tv x.tvs.length x.tvs :: starL (List.zipWith entA x.tvs x.l.tabs) :: starL ((xs.map tblA).set i emp) :: F) w := by
  have h1 : St S w0 (tblA x :: starL ((xs.map tblA).set i emp) :: F) w := st_take (j := 0) (i := i) h rfl (by simp [hi])
  exact ot_open (y := ⟨x.tv, x.tvs, x.l.tabs⟩) h1
theorem tbl_unfocus {xs : List LstV} {i : Nat} {x : LstV} (hi : i < xs.length) (hl : x.tvs.length = x.l.tabs.length) (h : St S w0 (row 37 1 x.tv x.tvs.length x.tvs :: starL (List.zipWith entA x.tvs x.l.tabs) :: starL ((xs.map tblA).set i emp) :: F) w) : St S w0 (starL ((xs.set i x).map tblA) :: F) w := by
  have h1 : St S w0 (tblA x :: starL ((xs.map tblA).set i emp) :: F) w := ot_mk (y := ⟨x.tv, x.tvs, x.l.tabs⟩) ((st_pure hl h).perm (.swap _ _ _))
  have hx : (xs.map tblA)[i]? = some (tblA xs[i]) := by simp [List.getElem?_eq_getElem hi]
  rw [← set_map_tbl]
  exact st_back hx h1
/-- A table put in the place of another one. -/
theorem ent_repl {vs : List Value} {ts : List (List EntryI)} {k : Nat} {v : Value} {t : List EntryI} (hk : k < vs.length) (hl : vs.length = ts.length) (h : St S w0 (entA v t :: starL (List.zipWith entA vs ts) :: F) w) : St S w0 (starL (List.zipWith entA (vs.set k v) (ts.set k t)) :: F) w := by
  have e : List.zipWith entA (vs.set k v) (ts.set k t) = (List.zipWith entA vs ts).set k (entA v t) := by
    refine List.ext_getElem? fun j => ?_
    by_cases hj : k = j
    · subst hj
      rw [List.getElem?_zipWith, List.getElem?_set_self hk, List.getElem?_set_self (by omega), List.getElem?_set_self (by rw [List.length_zipWith]; omega)]
    · simp [List.getElem?_zipWith, List.getElem?_set_ne hj]
  rw [e]
  exact st_repl (by simp; omega) h
end
/-- Cells of one list, set. -/
theorem cells_set {xs : List LstV} {i j : Nat} {x y : LstV} {v : Value} {junk : List Value} (hx : xs[i]? = some x) (hj : j < 8) (hy : (lstCells x).set j v = lstCells y) : (xs.flatMap lstCells ++ junk).set (i * 8 + j) v = (xs.set i y).flatMap lstCells ++ junk := by
  have hi := (List.getElem?_eq_some_iff.1 hx).1
  rw [List.set_append_left _ _ (by rw [length_flat len_lst]; omega), flat_set len_lst hx hj hy]
theorem totT_set {ls : List ListI} {i : Nat} {l l' : ListI} (h : ls[i]? = some l) : totT (ls.set i l') + l.tabs.length = totT ls + l'.tabs.length := by
  induction ls generalizing i with
  | nil => simp at h
  | cons x r ih =>
    cases i with
    | zero =>
      simp at h
      subst h
      simp [totT]
      omega
    | succ i =>
      have := ih (i := i) (by simpa using h)
      simp [totT] at this ⊢
      omega
theorem mem_set {xs : List LstV} {i : Nat} {x y : LstV} (h : y ∈ xs.set i x) : y ∈ xs ∨ y = x := List.mem_or_eq_of_mem_set h
theorem ls_set (d : DqV) (i : Nat) (x : LstV) : (d.xs.set i x).map (·.l) = (lsOf d).set i x.l := by rw [List.map_set]; rfl
theorem ent_nils {S : Nat → Prop} {w0 w : World} {F : List Asn} (h : St S w0 F w) : ∀ k : Nat, St S w0 (starL (List.zipWith entA (List.replicate k (.slice none 0 0)) (List.replicate k [])) :: F) w
  | 0 => st_star0 h
  | k + 1 => by
    rw [List.replicate_succ', List.replicate_succ', List.zipWith_append (by simp)]
    refine st_snoc ?_
    have h1 := st_nil (ent_nils h k) 44 3
    exact h1
section
variable {S : Nat → Prop} {w0 w : World} {F : List Asn}
theorem dq_mk {p g n c st : Nat} {xs : List LstV} {junk : List Value} {pv : Option (Nat × Nat × Nat × Nat)} (hn : xs.length = n) (hc : n ≤ c) (hm : c ≤ maxLen) (hl : (xs.flatMap lstCells ++ junk).length = c * 8) (h : St S w0 (blk p [.int .i64 4, .int .i64 st, .slice (some ⟨g, 0, none⟩) n c, ptV pv] 98 :: blk g (xs.flatMap lstCells ++ junk) 27 :: starL (xs.map tblA) :: ptA pv :: F) w) : St S w0 (dqL p ⟨st, some ⟨g, 0, none⟩, c, xs, pv⟩ ++ F) w := by
  subst hn
  have h1 := h.perm (.swap _ _ _)
  have h2 := row_shut (n := xs.length) (c := c) (by exact hc) hm (length_flat len_lst xs) hl h1
  exact h2.perm (.swap _ _ _)
theorem tbl_new {m gm : Nat} {l : ListI} (hm : m ≤ maxLen) (h : St S w0 (blk gm (List.replicate m (.slice none 0 0)) 37 :: F) w) (hl : l.tabs = List.replicate m []) : St S w0 (tblA ⟨l, .slice (some ⟨gm, 0, none⟩) m m, List.replicate m (.slice none 0 0)⟩ :: F) w := by
  have h1 := ent_nils h m
  have h2 : St S w0 (row 37 1 (.slice (some ⟨gm, 0, none⟩) m m) m (List.replicate m (.slice none 0 0)) :: starL (List.zipWith entA (List.replicate m (.slice none 0 0)) (List.replicate m [])) :: F) w := (h1.perm (.swap _ _ _)).see (i := 0) rfl (fun h => row_of_blk h 1 m m (Nat.le_refl _) hm (by simp) _ (by rw [Nat.mul_one, List.take_of_length_le (by simp)])) (fun b hb => row_blkS hb)
  have h3 := (st_pure (p := m = m) rfl h2).perm (.swap _ _ _)
  unfold tblA
  rw [hl]
  refine ot_mk (y := ⟨.slice (some ⟨gm, 0, none⟩) m m, List.replicate m (.slice none 0 0), List.replicate m []⟩) ?_
  dsimp only
  simpa using h3
end
theorem ptr_keep {xs : List LstV} {pv : Option (Nat × Nat × Nat × Nat)} (h : ∀ y, pv = some y → ∃ x t, xs[y.2.1]? = some x ∧ x.l.tabs[y.2.2.1]? = some t ∧ y.2.2.2 < t.length) {i : Nat} {x' : LstV} (hi : i < xs.length) (hp : ∀ y, pv = some y → y.2.1 = i → ∃ t, x'.l.tabs[y.2.2.1]? = some t ∧ y.2.2.2 < t.length) : ∀ y, pv = some y → ∃ x t, (xs.set i x')[y.2.1]? = some x ∧ x.l.tabs[y.2.2.1]? = some t ∧ y.2.2.2 < t.length := fun y hy => by
  by_cases e : y.2.1 = i
  · obtain ⟨t, h1, h2⟩ := hp y hy e
    exact ⟨x', t, by rw [e]; exact List.getElem?_set_self hi, h1, h2⟩
  · obtain ⟨x, t, h1, h2, h3⟩ := h y hy
    exact ⟨x, t, by rw [List.getElem?_set_ne (Ne.symm e)]; exact h1, h2, h3⟩
theorem dqok_set {d : DqV} (hok : DqOk d) {i st c : Nat} {x x' : LstV} {A : Option Addr} {pv : Option (Nat × Nat × Nat × Nat)} (hx : d.xs[i]? = some x) (hl : LOk x'.l) (ht : totT (lsOf d) + x'.l.tabs.length ≤ 16 + x.l.tabs.length) (hst : st ≤ 3) (h0 : st = 0 → d.step = 0) (hp : ∀ y, pv = some y → ∃ x t, (d.xs.set i x')[y.2.1]? = some x ∧ x.l.tabs[y.2.2.1]? = some t ∧ y.2.2.2 < t.length) : DqOk ⟨st, A, c, d.xs.set i x', pv⟩ := by
  refine ⟨by dsimp only; rw [List.length_set]; exact hok.len, hst, ?_, fun y hy => ?_, fun e => (by have := hok.free (h0 e); rw [this] at hx; simp at hx), hp⟩
  · have h1 := totT_set (l := x.l) (l' := x'.l) (ls := lsOf d) (i := i) (by rw [lsOf, List.getElem?_map, hx]; rfl)
    show totT ((d.xs.set i x').map (·.l)) ≤ 16
    rw [ls_set]
    omega
  · rcases mem_set hy with hy | rfl
    · exact hok.lists y hy
    · exact hl
theorem off_set {d : DqV} (h : Off d) {i st c : Nat} {x' : LstV} {A : Option Addr} {pv : Option (Nat × Nat × Nat × Nat)} (hx : x'.l.on = false) : Off ⟨st, A, c, d.xs.set i x', pv⟩ := fun y hy => by
  rcases mem_set hy with hy | rfl
  · exact h y hy
  · exact hx
def odX (x : LstV) (m gm : Nat) : LstV := ⟨⟨x.l.first, List.replicate m [], x.l.stim, x.l.ev, x.l.pre, x.l.pri, x.l.on, x.l.ch⟩, .slice (some ⟨gm, 0, none⟩) m m, List.replicate m (.slice none 0 0)⟩
theorem odX_ok {d : DqV} (hok : DqOk d) {i m gm c : Nat} {x : LstV} {A : Option Addr} (hx : d.xs[i]? = some x) (hm : m ≤ 255) (ht : m + totT (lsOf d) ≤ 16) (h0 : x.tvs.length = 0) (hl : x.tvs.length = x.l.tabs.length) : DqOk ⟨2, A, c, d.xs.set i (odX x m gm), d.pv⟩ := by
  have hxo := hok.lists x (List.mem_of_getElem? hx)
  have hi := (List.getElem?_eq_some_iff.1 hx).1
  refine dqok_set hok hx ⟨hxo.first, hxo.ev, hxo.pre, hxo.pri, ?_, fun t h => ?_⟩ ?_ (by omega) (by omega) (ptr_keep hok.ptr hi fun y hy e => ?_)
  · show (List.replicate m _).length ≤ 16
    rw [List.length_replicate]
    omega
  · rw [List.eq_of_mem_replicate h]
    exact ⟨(fun e h => by cases h), by simp, by simp [needsM]⟩
  · show _ + (List.replicate m _).length ≤ _
    rw [List.length_replicate]
    omega
  · obtain ⟨x1, t, h1, h2, h3⟩ := hok.ptr y hy
    rw [e, hx] at h1
    injection h1 with h1
    subst h1
    have := (List.getElem?_eq_some_iff.1 h2).1
    omega
theorem odX_st {S : Nat → Prop} {w0 w : World} {p g gm i m c st : Nat} {x : LstV} {xs : List LstV} {junk : List Value} {pv : Option (Nat × Nat × Nat × Nat)} (hi : i < xs.length) (hc : xs.length ≤ c) (hm : c ≤ maxLen) (hl : (xs.flatMap lstCells ++ junk).length = c * 8) (hmm : m ≤ maxLen) (h : St S w0 [blk p [.int .i64 4, .int .i64 st, .slice (some ⟨g, 0, none⟩) xs.length c, ptV pv] 98, blk g ((xs.set i (odX x m gm)).flatMap lstCells ++ junk) 27, starL (xs.map tblA), ptA pv, blk gm (List.replicate m (.slice none 0 0)) 37] w) : St S w0 (dqL p ⟨st, some ⟨g, 0, none⟩, c, xs.set i (odX x m gm), pv⟩) w := by
  have h1 := h.psub (hp' := blk gm (List.replicate m (.slice none 0 0)) 37 :: starL (xs.map tblA) :: [blk p [.int .i64 4, .int .i64 st, .slice (some ⟨g, 0, none⟩) xs.length c, ptV pv] 98, blk g ((xs.set i (odX x m gm)).flatMap lstCells ++ junk) 27, ptA pv]) (by first | ((repeat (first | exact PSub.nil | exact Ext.head | apply Ext.tail | apply PSub.cons)); done) | fail)
  have h2 := tbl_new (l := (odX x m gm).l) hmm h1 rfl
  have h3 : St S w0 (starL ((xs.map tblA).set i (tblA (odX x m gm))) :: _) w := st_repl (by rw [List.length_map]; exact hi) h2
  rw [set_map_tbl] at h3
  have h4 := h3.psub (hp' := blk p [.int .i64 4, .int .i64 st, .slice (some ⟨g, 0, none⟩) xs.length c, ptV pv] 98 :: blk g ((xs.set i (odX x m gm)).flatMap lstCells ++ junk) 27 :: starL ((xs.set i (odX x m gm)).map tblA) :: ptA pv :: []) (by first | ((repeat (first | exact PSub.nil | exact Ext.head | apply Ext.tail | apply PSub.cons)); done) | fail)
  have h5 := dq_mk (F := []) (xs := xs.set i (odX x m gm)) (List.length_set ..) hc hm (by rw [List.length_append, length_flat len_lst, List.length_set]; rw [List.length_append, length_flat len_lst] at hl; exact hl) h4
  simpa using h5
attribute [local irreducible] blk row bytesA starL memA segA roB otA entA tblA
set_option maxHeartbeats 8000000 in
theorem dodts_spec {p : Nat} {d : DqV} {w : World} (hA : Hold (dqL p d) w) (hok : DqOk d) (hoff : Off d) (c : CmdV) (hc : c.code = 20) (hcok : c.Ok) :
    Calls Try.prog 45 #[.pointer (some ⟨p, 0, none⟩), .agg (cmdC c).toArray] w (Ret w (dqL p d) (DoOut p c d)) := by
  have hmx : maxLen = 2 ^ 63 - 1 := rfl
  have hok0 := hok
  obtain ⟨hlen, hst, htot, hlists, hfree, hptr⟩ := hok
  have ha0 := hcok.a0
  have ha1 := hcok.a1
  refine enter (vs := [.pointer (some ⟨p, 0, none⟩), .agg (cmdC c).toArray]) Try.func45 rfl Try.ntmps45 rfl hA ?_
  refine c_fact (p := DqSh d) (fun w h => dq_sh (F := []) h) ?_
  rintro ⟨⟨hc1, hc2⟩, hgA, htv⟩
  refine c_hp (hp' := [blk p [.int .i64 4, .int .i64 d.step, .slice d.A d.xs.length d.c, ptV d.pv] 98, row 27 8 (.slice d.A d.xs.length d.c) d.xs.length (d.xs.flatMap lstCells), starL (d.xs.map tblA), ptA d.pv]) (fun w h => h) ?_
  simp only [cmdC]
  (repeat (first | (refine i_dst ?_; (first | (refine i_move ?_; refine l_q rfl rfl rfl (q_move rfl) ?_) | (refine i_assign ?_; refine l_q rfl rfl rfl (q_assign rfl) ?_) | (refine i_load ?_; refine l_q rfl rfl rfl (by ((exact q_ld1 tab rfl rfl rfl (by first | ((repeat (first | exact List.Mem.head _ | apply List.Mem.tail)); done) | fail) (by (rfl))))) ?_) | (refine i_ix ?_; refine l_q rfl rfl rfl (by (exact q_indexAddrA1 tab rfl rfl rfl rfl (by omega))) ?_) | (refine i_box ?_; (refine l_boxA rfl rfl (fun _ => ?_))) | (refine l_q rfl rfl rfl (by ((apply iq_fld; (exact q_fieldAddr tab rfl rfl rfl rfl rfl rfl rfl)))) ?_))) | refine d_seq ?_ | refine c_region ?_ | refine l_nil ?_ | (refine i_q ?_; (refine d_then ?_))))
  rename_i b3
  (refine l_call0 rfl rfl Try.func60 rfl (by decide) (fun w' h => dlist_spec (Ro.empty (h.mem (X := blk p [.int .i64 4, .int .i64 d.step, .slice d.A d.xs.length d.c, ptV d.pv] 98) (by first | ((repeat (first | exact List.Mem.head _ | apply List.Mem.tail)); done) | fail))) hgA c.a0 ha0) (fun v B hv => ?_); obtain ⟨rfl, rfl⟩ := hv)
  (repeat (first | (refine i_dst ?_; (first | (refine i_move ?_; refine l_q rfl rfl rfl (q_move rfl) ?_) | (refine i_assign ?_; refine l_q rfl rfl rfl (q_assign rfl) ?_) | (refine i_load ?_; refine l_q rfl rfl rfl (by ((exact q_ld1 tab rfl rfl rfl (by first | ((repeat (first | exact List.Mem.head _ | apply List.Mem.tail)); done) | fail) (by (rfl))))) ?_) | (refine i_blt ?_; refine l_q rfl rfl rfl (by (exact q_len tab rfl rfl)) ?_) | (refine i_ix ?_; refine l_q rfl rfl rfl (by (exact q_indexAddrA1 tab rfl rfl rfl rfl (by omega))) ?_) | (refine l_q rfl rfl rfl (by (first | (apply iq_fld; (exact q_fieldAddr tab rfl rfl rfl rfl rfl rfl rfl)) | (apply iq_nck; (exact q_nilck rfl)) | (apply iq_cv; (exact q_conv tab rfl rfl rfl (by (exact wr_i64 (by omega))))))) ?_))) | refine d_seq ?_ | refine c_region ?_ | refine l_nil ?_ | refine c_block ?_ | (refine i_q ?_; (refine d_then ?_))))
  refine d_loop (T := Nat) [0, 3, 6, 22, 23] (fun k => [(7, .int .i64 (c.a1 + totT ((lsOf d).take k) : Nat)), (24, .int .i64 k)]) [blk b3 [.int .u8 c.code, .int .u8 c.a0, .int .u8 c.a1, .int .u8 c.a2, .int .u8 c.a3, .int .u8 c.a4, .int .u32 c.w, .slice none 0 0] 59, blk p [.int .i64 4, .int .i64 d.step, .slice d.A d.xs.length d.c, ptV d.pv] 98, row 27 8 (.slice d.A d.xs.length d.c) d.xs.length (d.xs.flatMap lstCells), starL (d.xs.map tblA), ptA d.pv] (fun _ => []) (fun k => k ≤ d.xs.length) (fun k => d.xs.length - k) 0 (by first | ((repeat (first | exact Pick.nil | exact rfl | apply Pick.cons)); done) | fail) (Nat.zero_le _) (by first | ((repeat (first | exact trivial | exact rfl | apply Sub.cons | exact look_int rfl (by omega) | exact look_int rfl (by simp) | exact look_int rfl (by simp; omega))); done) | fail) (fun w h => h.subl (by first | ((repeat (first | exact SubL.nil | apply SubL.keep | apply SubL.skip)); done) | fail)) ?_
  intro k hk
  by_cases hlt : k < d.xs.length
  · obtain ⟨x, hx⟩ : ∃ x, d.xs[k]? = some x := ⟨_, List.getElem?_eq_getElem hlt⟩
    obtain ⟨hxl, ⟨At, ct, hx1, hx2, hx3, hx4⟩, -⟩ := htv x (List.mem_of_getElem? hx)
    have hxt := (hlists x (List.mem_of_getElem? hx)).tabs
    have htake : (lsOf d).take (k + 1) = (lsOf d).take k ++ [x.l] := by rw [lsOf, List.take_add_one, List.getElem?_map, hx]; rfl
    have ht1 := totT_snoc ((lsOf d).take k) x.l
    rw [← htake] at ht1
    have ht2 := totT_le (ls := (lsOf d).take k) (fun l hl => by
      obtain ⟨y, hy, rfl⟩ := List.mem_map.1 (List.mem_of_mem_take hl)
      exact (hlists y hy).tabs)
    have ht3 : ((lsOf d).take k).length ≤ 4 := by rw [List.length_take, lsOf, List.length_map]; omega
    have hxc : lstCells x = [.int .i64 x.l.first, .slice At x.tvs.length ct, .bool x.l.stim, .int .u8 x.l.ev, .int .u8 x.l.pre, .int .u8 x.l.pri, .bool x.l.on, .bool x.l.ch] := by rw [lstCells, hx1]
    generalize totT ((lsOf d).take k) = s at ht1 ht2 ⊢
    (repeat (first | (refine i_dst ?_; (first | (refine i_load ?_; refine l_q rfl rfl rfl (by ((exact q_ldFN tab rfl rfl rfl rfl (by ((exact fun w h => row_src (h.mem (by first | ((repeat (first | exact List.Mem.head _ | apply List.Mem.tail)); done) | fail))))) (by exact fun _ => rfl) (by assumption) (by exact rfl) (by exact List.cons_ne_nil _ _)))) ?_) | (refine i_bin ?_; refine l_q rfl rfl rfl (by (exact q_lss rfl rfl)) ?_) | (refine i_ix ?_; refine l_q rfl rfl rfl (by ((exact q_ixSN tab rfl rfl rfl rfl (by ((exact fun w h => row_src (h.mem (by first | ((repeat (first | exact List.Mem.head _ | apply List.Mem.tail)); done) | fail))))) (by first | (with_reducible exact Int.toNat_natCast _) | (with_reducible exact Int.toNat_zero) | (with_reducible exact Int.toNat_one) | rfl) (by (omega)) (by (omega))))) ?_) | (refine i_alloc ?_; (refine l_allocA tab rfl rfl (fun _ => ?_))))) | refine d_seq ?_ | refine c_region ?_ | refine l_nil ?_ | refine c_block ?_ | (refine i_q ?_; (refine d_then ?_)) | refine c_skip ?_ | (refine i_cond ?_; (refine c_ct rfl (by (exact decide_eq_true (by omega))) ?_))))
    rw [hxc]
    (repeat (first | (refine i_dst ?_; (first | (refine i_move ?_; refine l_q rfl rfl rfl (q_move rfl) ?_) | (refine i_assign ?_; refine l_q rfl rfl rfl (q_assign rfl) ?_) | (refine i_load ?_; refine l_q rfl rfl rfl (by ((exact q_ld1 tab rfl rfl rfl (by first | ((repeat (first | exact List.Mem.head _ | apply List.Mem.tail)); done) | fail) (by (rfl))))) ?_) | (refine i_bin ?_; refine l_q rfl rfl rfl (by (exact q_add rfl rfl (by (exact wr_i64 (by omega))))) ?_) | (refine i_blt ?_; refine l_q rfl rfl rfl (by (exact q_len tab rfl rfl)) ?_) | (refine l_q rfl rfl rfl (by ((apply iq_fld; (exact q_fieldAddr tab rfl rfl rfl rfl rfl rfl rfl)))) ?_))) | refine c_region ?_ | refine l_nil ?_ | (refine i_q ?_; (first | refine d_then ?_ | refine t_then ?_ | refine t_block ?_)) | (refine i_store ?_; ((refine l_setN tab rfl rfl rfl rfl (List.cons_ne_nil _ _) rfl (by first | ((repeat (first | exact Upd.head | apply Upd.tail)); done) | fail) (by first | ((repeat (first | exact LSets.nil | exact LSet.zero | apply LSets.cons | apply LSet.succ)); done) | fail) ?_)))))
    refine k_again (k + 1) (by omega) (by omega) ?_ (fun w h => h.subl (by first | ((repeat (first | exact SubL.nil | apply SubL.keep | apply SubL.skip)); done) | fail))
    rw [ht1]
    exact (by first | ((repeat (first | exact trivial | exact rfl | apply Sub.cons | exact look_int rfl (by omega) | exact look_int rfl (by simp) | exact look_int rfl (by simp; omega))); done) | fail)
  · have hkn : k = d.xs.length := by omega
    subst hkn
    rw [List.take_of_length_le (by rw [lsOf, List.length_map]; omega)]
    generalize hs : totT (lsOf d) = s at htot ⊢
    by_cases hstep : d.step = 1 ∨ d.step = 2
    · by_cases hi : c.a0 < d.xs.length
      · rw [if_pos hi]
        obtain ⟨x, hx⟩ : ∃ x, d.xs[c.a0]? = some x := ⟨_, List.getElem?_eq_getElem hi⟩
        obtain ⟨hxl, ⟨At, ct, hx1, hx2, hx3, hx4⟩, -⟩ := htv x (List.mem_of_getElem? hx)
        have hxc : (lstCells x)[1]? = some (.slice At x.tvs.length ct) := by rw [lstCells, hx1]; rfl
        obtain ⟨g, hg⟩ := hgA (by omega)
        have hnn : (adr d.A (c.a0 * 8)).isNone = false := by rw [hg, adr_some]; rfl
        by_cases h0 : x.tvs.length = 0
        · by_cases h16 : c.a1 + s ≤ 16
          · rcases hstep with hstep | hstep
            all_goals
              (repeat (first | (refine i_dst ?_; (first | (refine i_move ?_; refine l_q rfl rfl rfl (q_move rfl) ?_) | (refine i_assign ?_; refine l_q rfl rfl rfl (q_assign rfl) ?_) | (refine i_load ?_; refine l_q rfl rfl rfl (by (first | (exact q_ld1 tab rfl rfl rfl (by first | ((repeat (first | exact List.Mem.head _ | apply List.Mem.tail)); done) | fail) (by (rfl))) | (exact q_ldF tab rfl rfl rfl (by ((exact fun w h => row_src (h.mem (by first | ((repeat (first | exact List.Mem.head _ | apply List.Mem.tail)); done) | fail))))) (by exact fun _ => rfl) (by assumption) (by exact rfl)))) ?_) | (refine i_bin ?_; refine l_q rfl rfl rfl (by (first | exact q_lss rfl rfl | exact q_neq rfl rfl | exact q_eqnil tab rfl rfl rfl)) ?_) | (refine l_q rfl rfl rfl (by (first | (apply iq_fld; (first | exact q_fieldAddr tab rfl rfl rfl rfl rfl rfl rfl | (exact q_fldS tab rfl rfl rfl rfl rfl rfl rfl (by ((exact fun w h => row_src (h.mem (by first | ((repeat (first | exact List.Mem.head _ | apply List.Mem.tail)); done) | fail))))) (by (omega))))) | (apply iq_nck; (first | exact q_nilck rfl | (exact q_nckS rfl (by ((exact fun w h => row_src (h.mem (by first | ((repeat (first | exact List.Mem.head _ | apply List.Mem.tail)); done) | fail))))) (by (omega))))) | exact q_pick_t rfl rfl | exact q_pick_f rfl rfl)) ?_))) | refine d_seq ?_ | refine c_region ?_ | refine l_nil ?_ | refine c_block ?_ | (refine i_q ?_; (first | refine d_then ?_ | refine d_then_exit ?_ | refine t_then_exit ?_ | refine t_block_eq rfl ?_)) | refine c_exit ?_ | (refine i_guard ?_; (first | refine l_gt rfl rfl rfl ?_ | refine l_gf rfl rfl rfl rfl rfl rfl ?_ | refine l_gtd rfl rfl rfl (by (exact decide_eq_true (by omega))) ?_ | refine l_gfd rfl rfl rfl (by (exact decide_eq_false (by omega))) rfl rfl ?_)) | (refine i_cond ?_; ((refine c_cf rfl (by (first | rfl | assumption | ((first | (simp; done) | fail)) | exact decide_eq_false (by omega))) ?_)))))
              rw [hx1]
              (repeat (first | (refine i_dst ?_; (first | (refine i_move ?_; refine l_q rfl rfl rfl (q_move rfl) ?_) | (refine i_assign ?_; refine l_q rfl rfl rfl (q_assign rfl) ?_) | (refine i_load ?_; refine l_q rfl rfl rfl (by ((exact q_ld1 tab rfl rfl rfl (by first | ((repeat (first | exact List.Mem.head _ | apply List.Mem.tail)); done) | fail) (by (rfl))))) ?_) | (refine i_bin ?_; refine l_q rfl rfl rfl (by (exact q_gtr rfl rfl)) ?_) | (refine i_blt ?_; refine l_q rfl rfl rfl (by (exact q_len tab rfl rfl)) ?_) | (refine i_ix ?_; refine l_q rfl rfl rfl (by (exact q_indexAddrA1 tab rfl rfl rfl rfl (by omega))) ?_) | (refine i_mk ?_; refine l_make rfl rfl rfl (fun w => run_makeN tab rfl rfl rfl (by (omega)) (by (omega)) w) (fun _ => ?_)) | (refine l_q rfl rfl rfl (by (first | (apply iq_fld; (first | exact q_fieldAddr tab rfl rfl rfl rfl rfl rfl rfl | (exact q_fldS tab rfl rfl rfl rfl rfl rfl rfl (by ((exact fun w h => row_src (h.mem (by first | ((repeat (first | exact List.Mem.head _ | apply List.Mem.tail)); done) | fail))))) (by (omega))))) | (apply iq_nck; ((exact q_nckS rfl (by ((exact fun w h => row_src (h.mem (by first | ((repeat (first | exact List.Mem.head _ | apply List.Mem.tail)); done) | fail))))) (by (omega))))))) ?_))) | refine d_seq ?_ | refine c_region ?_ | refine l_nil ?_ | (refine i_q ?_; (first | refine d_then ?_ | refine t_block ?_)) | refine c_skip ?_ | (refine i_cond ?_; (refine c_cf rfl (by (exact decide_eq_false (by omega))) ?_))))
              rename_i gm
              rw [hg]
              simp only [adr_some]
              refine l_ex (fun w h => row_open (by omega) (h.ext (X := row 27 8 (.slice (some ⟨g, 0, none⟩) d.xs.length d.c) d.xs.length (d.xs.flatMap lstCells)) (by first | ((repeat (first | exact Ext.head | apply Ext.tail)); done) | fail))) ?_
              rintro ⟨g', junk⟩ ⟨hgg, hg1, hg2, hg3⟩
              injection hgg with hgg
              injection hgg with hgg
              subst hgg
              dsimp only at hg3 ⊢
              (repeat (first | (refine i_dst ?_; (first | (refine i_assign ?_; refine l_q rfl rfl rfl (q_assign rfl) ?_) | (refine l_q rfl rfl rfl (by (first | (apply iq_fld; (exact q_fieldAddr tab rfl rfl rfl rfl rfl rfl rfl)) | (apply iq_nck; (exact q_nilck rfl)))) ?_))) | refine d_seq ?_ | refine c_region ?_ | refine l_nil ?_ | (refine i_q ?_; (refine d_then ?_)) | refine c_ret ?_ | (refine i_store ?_; (first | (refine l_set tab rfl rfl rfl rfl (by first | ((repeat (first | exact Upd.head | apply Upd.tail)); done) | fail) (by first | ((repeat (first | exact LSet.zero | apply LSet.succ)); done) | fail) ?_) | (refine l_setI tab rfl rfl rfl rfl (by first | ((repeat (first | exact Upd.head | apply Upd.tail)); done) | fail) (by (omega)) ?_)))))
              refine t_hp (hp' := dqL p ⟨2, some ⟨g, 0, none⟩, d.c, d.xs.set c.a0 (odX x c.a1 gm), d.pv⟩) (fun w h => ?_) (t_ret2 Try.results45 rfl rfl (.inr ⟨_, _, rfl, rfl, odX_ok hok0 hx (by omega) (by omega) h0 hxl, fun _ => off_set hoff (hoff x (List.mem_of_getElem? hx)), ⟨by omega, fun _ _ => ?_, by omega, by omega, by omega⟩⟩))
              · rw [Nat.zero_add, cells_set hx (y := odX x c.a1 gm) (by omega) (by rfl)] at h
                exact odX_st hi hg1 hg2 hg3 (by omega) (h.psub (by first | ((repeat (first | exact PSub.nil | exact Ext.head | apply Ext.tail | apply PSub.cons)); done) | fail))
              · rw [lsOf, ls_set, List.length_set]
          · rcases hstep with hstep | hstep
            all_goals
              (repeat (first | (refine i_dst ?_; (first | (refine i_move ?_; refine l_q rfl rfl rfl (q_move rfl) ?_) | (refine i_assign ?_; refine l_q rfl rfl rfl (q_assign rfl) ?_) | (refine i_load ?_; refine l_q rfl rfl rfl (by (first | (exact q_ld1 tab rfl rfl rfl (by first | ((repeat (first | exact List.Mem.head _ | apply List.Mem.tail)); done) | fail) (by (rfl))) | (exact q_ldF tab rfl rfl rfl (by ((exact fun w h => row_src (h.mem (by first | ((repeat (first | exact List.Mem.head _ | apply List.Mem.tail)); done) | fail))))) (by exact fun _ => rfl) (by assumption) (by exact rfl)))) ?_) | (refine i_bin ?_; refine l_q rfl rfl rfl (by (first | exact q_lss rfl rfl | exact q_neq rfl rfl | exact q_eqnil tab rfl rfl rfl)) ?_) | (refine l_q rfl rfl rfl (by (first | (apply iq_fld; (first | exact q_fieldAddr tab rfl rfl rfl rfl rfl rfl rfl | (exact q_fldS tab rfl rfl rfl rfl rfl rfl rfl (by ((exact fun w h => row_src (h.mem (by first | ((repeat (first | exact List.Mem.head _ | apply List.Mem.tail)); done) | fail))))) (by (omega))))) | (apply iq_nck; (first | exact q_nilck rfl | (exact q_nckS rfl (by ((exact fun w h => row_src (h.mem (by first | ((repeat (first | exact List.Mem.head _ | apply List.Mem.tail)); done) | fail))))) (by (omega))))) | exact q_pick_t rfl rfl | exact q_pick_f rfl rfl)) ?_))) | refine d_seq ?_ | refine c_region ?_ | refine l_nil ?_ | refine c_block ?_ | (refine i_q ?_; (first | refine d_then ?_ | refine d_then_exit ?_ | refine t_then_exit ?_ | refine t_block_eq rfl ?_)) | refine c_exit ?_ | (refine i_guard ?_; (first | refine l_gt rfl rfl rfl ?_ | refine l_gf rfl rfl rfl rfl rfl rfl ?_ | refine l_gtd rfl rfl rfl (by (exact decide_eq_true (by omega))) ?_ | refine l_gfd rfl rfl rfl (by (exact decide_eq_false (by omega))) rfl rfl ?_)) | (refine i_cond ?_; ((refine c_cf rfl (by (first | rfl | assumption | ((first | (simp; done) | fail)) | exact decide_eq_false (by omega))) ?_)))))
              rw [hx1]
              (repeat (first | (refine i_dst ?_; (first | (refine i_move ?_; refine l_q rfl rfl rfl (q_move rfl) ?_) | (refine i_assign ?_; refine l_q rfl rfl rfl (q_assign rfl) ?_) | (refine i_bin ?_; refine l_q rfl rfl rfl (by (exact q_gtr rfl rfl)) ?_) | (refine i_blt ?_; refine l_q rfl rfl rfl (by (exact q_len tab rfl rfl)) ?_))) | refine d_seq ?_ | refine c_region ?_ | refine l_nil ?_ | (refine i_q ?_; (first | refine d_then ?_ | refine d_then_ret ?_ | refine t_block_ret ?_)) | refine c_ret ?_ | (refine i_cond ?_; (first | refine c_ct rfl (by (exact decide_eq_true (by omega))) ?_ | refine c_cf rfl (by (exact decide_eq_false (by omega))) ?_))))
              exact t_hp (hp' := []) (fun w h => h.psub (by first | ((repeat (first | exact PSub.nil | exact Ext.head | apply Ext.tail | apply PSub.cons)); done) | fail)) (t_ret2 Try.results45 rfl rfl (.inl ⟨_, _, rfl, by omega⟩))
        · rcases hstep with hstep | hstep
          all_goals
            (repeat (first | (refine i_dst ?_; (first | (refine i_move ?_; refine l_q rfl rfl rfl (q_move rfl) ?_) | (refine i_assign ?_; refine l_q rfl rfl rfl (q_assign rfl) ?_) | (refine i_load ?_; refine l_q rfl rfl rfl (by (first | (exact q_ld1 tab rfl rfl rfl (by first | ((repeat (first | exact List.Mem.head _ | apply List.Mem.tail)); done) | fail) (by (rfl))) | (exact q_ldF tab rfl rfl rfl (by ((exact fun w h => row_src (h.mem (by first | ((repeat (first | exact List.Mem.head _ | apply List.Mem.tail)); done) | fail))))) (by exact fun _ => rfl) (by assumption) (by exact rfl)))) ?_) | (refine i_bin ?_; refine l_q rfl rfl rfl (by (first | exact q_lss rfl rfl | exact q_neq rfl rfl | exact q_eqnil tab rfl rfl rfl)) ?_) | (refine l_q rfl rfl rfl (by (first | (apply iq_fld; (first | exact q_fieldAddr tab rfl rfl rfl rfl rfl rfl rfl | (exact q_fldS tab rfl rfl rfl rfl rfl rfl rfl (by ((exact fun w h => row_src (h.mem (by first | ((repeat (first | exact List.Mem.head _ | apply List.Mem.tail)); done) | fail))))) (by (omega))))) | (apply iq_nck; (first | exact q_nilck rfl | (exact q_nckS rfl (by ((exact fun w h => row_src (h.mem (by first | ((repeat (first | exact List.Mem.head _ | apply List.Mem.tail)); done) | fail))))) (by (omega))))) | exact q_pick_t rfl rfl | exact q_pick_f rfl rfl)) ?_))) | refine d_seq ?_ | refine c_region ?_ | refine l_nil ?_ | refine c_block ?_ | (refine i_q ?_; (first | refine d_then ?_ | refine d_then_exit ?_ | refine t_then_exit ?_ | refine t_block_eq rfl ?_)) | refine c_exit ?_ | (refine i_guard ?_; (first | refine l_gt rfl rfl rfl ?_ | refine l_gf rfl rfl rfl rfl rfl rfl ?_ | refine l_gtd rfl rfl rfl (by (exact decide_eq_true (by omega))) ?_ | refine l_gfd rfl rfl rfl (by (exact decide_eq_false (by omega))) rfl rfl ?_)) | (refine i_cond ?_; ((refine c_cf rfl (by (first | rfl | assumption | ((first | (simp; done) | fail)) | exact decide_eq_false (by omega))) ?_)))))
            rw [hx1]
            (repeat (first | (refine i_dst ?_; (first | (refine i_assign ?_; refine l_q rfl rfl rfl (q_assign rfl) ?_) | (refine i_bin ?_; refine l_q rfl rfl rfl (by (exact q_gtr rfl rfl)) ?_) | (refine i_blt ?_; refine l_q rfl rfl rfl (by (exact q_len tab rfl rfl)) ?_))) | refine d_seq ?_ | refine c_region ?_ | refine l_nil ?_ | (refine i_q ?_; (first | refine d_then ?_ | refine d_then_ret ?_ | refine t_block_ret ?_)) | refine c_ret ?_ | (refine i_cond ?_; (refine c_ct rfl (by (exact decide_eq_true (by omega))) ?_))))
            exact t_hp (hp' := []) (fun w h => h.psub (by first | ((repeat (first | exact PSub.nil | exact Ext.head | apply Ext.tail | apply PSub.cons)); done) | fail)) (t_ret2 Try.results45 rfl rfl (.inl ⟨_, _, rfl, by omega⟩))
      · rw [if_neg hi]
        rcases hstep with hstep | hstep
        all_goals
          (repeat (first | (refine i_dst ?_; (first | (refine i_move ?_; refine l_q rfl rfl rfl (q_move rfl) ?_) | (refine i_assign ?_; refine l_q rfl rfl rfl (q_assign rfl) ?_) | (refine i_load ?_; refine l_q rfl rfl rfl (by ((exact q_ld1 tab rfl rfl rfl (by first | ((repeat (first | exact List.Mem.head _ | apply List.Mem.tail)); done) | fail) (by (rfl))))) ?_) | (refine i_bin ?_; refine l_q rfl rfl rfl (by (first | exact q_lss rfl rfl | exact q_neq rfl rfl | exact q_eqnil tab rfl rfl rfl)) ?_) | (refine l_q rfl rfl rfl (by (first | (apply iq_fld; (exact q_fieldAddr tab rfl rfl rfl rfl rfl rfl rfl)) | (apply iq_nck; (exact q_nilck rfl)) | exact q_pick_t rfl rfl | exact q_pick_f rfl rfl)) ?_))) | refine d_seq ?_ | refine c_region ?_ | refine l_nil ?_ | refine c_block ?_ | (refine i_q ?_; (first | refine d_then ?_ | refine d_then_exit ?_ | refine d_then_ret ?_ | refine t_then_exit ?_ | refine t_block_ret ?_ | refine t_block_eq rfl ?_)) | refine c_exit ?_ | refine c_ret ?_ | (refine i_guard ?_; (first | refine l_gt rfl rfl rfl ?_ | refine l_gf rfl rfl rfl rfl rfl rfl ?_ | refine l_gtd rfl rfl rfl (by (exact decide_eq_true (by omega))) ?_ | refine l_gfd rfl rfl rfl (by (exact decide_eq_false (by omega))) rfl rfl ?_)) | (refine i_cond ?_; (first | refine c_ct rfl (by (rfl)) ?_ | (refine c_cf rfl (by (first | rfl | ((first | (simp; done) | fail)) | exact decide_eq_false (by omega))) ?_)))))
          exact t_hp (hp' := []) (fun w h => h.psub (by first | ((repeat (first | exact PSub.nil | exact Ext.head | apply Ext.tail | apply PSub.cons)); done) | fail)) (t_ret2 Try.results45 rfl rfl (.inl ⟨_, _, rfl, by omega⟩))
    · (repeat (first | (refine i_dst ?_; (first | (refine i_move ?_; refine l_q rfl rfl rfl (q_move rfl) ?_) | (refine i_assign ?_; refine l_q rfl rfl rfl (q_assign rfl) ?_) | (refine i_load ?_; refine l_q rfl rfl rfl (by ((exact q_ld1 tab rfl rfl rfl (by first | ((repeat (first | exact List.Mem.head _ | apply List.Mem.tail)); done) | fail) (by (rfl))))) ?_) | (refine i_bin ?_; refine l_q rfl rfl rfl (by (first | exact q_lss rfl rfl | exact q_neq rfl rfl)) ?_) | (refine l_q rfl rfl rfl (by (first | (apply iq_fld; (exact q_fieldAddr tab rfl rfl rfl rfl rfl rfl rfl)) | (apply iq_nck; (exact q_nilck rfl)) | exact q_pick_t rfl rfl)) ?_))) | refine d_seq ?_ | refine c_region ?_ | refine l_nil ?_ | refine c_block ?_ | (refine i_q ?_; (first | refine d_then ?_ | refine d_then_exit ?_ | refine d_then_ret ?_ | refine t_then_exit ?_ | refine t_block_ret ?_ | refine t_block_eq rfl ?_)) | refine c_exit ?_ | refine c_ret ?_ | (refine i_guard ?_; (first | refine l_gt rfl rfl rfl ?_ | refine l_gtd rfl rfl rfl (by (exact decide_eq_true (by omega))) ?_)) | (refine i_cond ?_; (first | refine c_ct rfl (by (exact decide_eq_true (by omega))) ?_ | (refine c_cf rfl (by (((first | (simp; done) | fail)))) ?_)))))
      exact t_hp (hp' := []) (fun w h => h.psub (by first | ((repeat (first | exact PSub.nil | exact Ext.head | apply Ext.tail | apply PSub.cons)); done) | fail)) (t_ret2 Try.results45 rfl rfl (.inl ⟨_, _, rfl, by omega⟩))
end Go.Proofs.Ytboccjdncdaakaa

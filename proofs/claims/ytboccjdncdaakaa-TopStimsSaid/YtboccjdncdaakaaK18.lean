/-
  Part 18 of the proof of QJ: the texts FF FG.
-/
import Derived.Test.YtboccjdncdaakaaK17

/-
  Layer 11: mode, walked.
-/

set_option linter.unusedVariables false
set_option maxRecDepth 100000
namespace Go.Proofs.Ytboccjdncdaakaa
open Go.RowKit
attribute [local irreducible] TL TC TQ TK TO Qt TA
def mixF (f : LstV → LstV) (xs : List LstV) (i : Nat) : List LstV := (xs.take i).map f ++ xs.drop i
theorem mixF_len (f : LstV → LstV) (xs : List LstV) (i : Nat) : (mixF f xs i).length = xs.length := by simp [mixF]; omega
theorem mixF_get {f : LstV → LstV} {xs : List LstV} {i : Nat} {x : LstV} (h : xs[i]? = some x) : (mixF f xs i)[i]? = some x := by
  have hi := (List.getElem?_eq_some_iff.1 h).1
  rw [mixF, List.getElem?_append_right (by simp; omega)]
  simp only [List.length_map, List.length_take]
  rw [Nat.min_eq_left (by omega), Nat.sub_self, List.getElem?_drop]
  exact h
theorem mixF_set {f : LstV → LstV} {xs : List LstV} {i : Nat} {x : LstV} (h : xs[i]? = some x) : (mixF f xs i).set i (f x) = mixF f xs (i + 1) := by
  have hi := (List.getElem?_eq_some_iff.1 h).1
  rw [mixF, List.set_append_right _ _ (by simp; omega)]
  simp only [List.length_map, List.length_take]
  rw [Nat.min_eq_left (by omega), Nat.sub_self, List.drop_eq_getElem_cons hi, List.set_cons_zero, mixF, List.take_add_one, h]
  simp
theorem mixF_all (f : LstV → LstV) (xs : List LstV) : mixF f xs xs.length = xs.map f := by simp [mixF]
theorem mixF_zero (f : LstV → LstV) (xs : List LstV) : mixF f xs 0 = xs := by simp [mixF]
/-- One list changed, its tables as they were. -/
theorem same_st {S : Nat → Prop} {w0 w : World} {p g i c n st : Nat} {x x' : LstV} {xs : List LstV} {junk : List Value} {pv : Option (Nat × Nat × Nat × Nat)} (hn : xs.length = n) (hx : xs[i]? = some x) (ht : tblA x' = tblA x) (hc : n ≤ c) (hm : c ≤ maxLen) (hl : (xs.flatMap lstCells ++ junk).length = c * 8) (h : St S w0 [blk p [.int .i64 4, .int .i64 st, .slice (some ⟨g, 0, none⟩) n c, ptV pv] 98, blk g ((xs.set i x').flatMap lstCells ++ junk) 27, starL (xs.map tblA), ptA pv] w) : St S w0 (dqL p ⟨st, some ⟨g, 0, none⟩, c, xs.set i x', pv⟩) w := by
  have e : (xs.set i x').map tblA = xs.map tblA := by
    rw [List.map_set, ht]
    exact set_same (by rw [List.getElem?_map, hx]; rfl)
  have hl2 : ((xs.set i x').flatMap lstCells ++ junk).length = c * 8 := by
    rw [List.length_append, length_flat len_lst] at hl ⊢
    rw [List.length_set]
    exact hl
  rw [← e] at h
  have h5 := dq_mk (F := []) (xs := xs.set i x') (n := n) (by rw [List.length_set]; exact hn) hc hm hl2 h
  simpa using h5
def mdX (x : LstV) (s : Bool) (a b c : Nat) : LstV := ⟨⟨x.l.first, x.l.tabs, s, a, b, c, x.l.on, x.l.ch⟩, x.tv, x.tvs⟩
theorem mdX_tbl (x : LstV) (s : Bool) (a b c : Nat) : tblA (mdX x s a b c) = tblA x := rfl
theorem md_cells {xs : List LstV} {i : Nat} {x : LstV} {junk : List Value} (hx : xs[i]? = some x) (s : Bool) (a b c : Nat) : ((((xs.flatMap lstCells ++ junk).set (i * 8 + 2) (.bool s)).set (i * 8 + 3) (.int .u8 a)).set (i * 8 + 4) (.int .u8 b)).set (i * 8 + 5) (.int .u8 c) = (xs.set i (mdX x s a b c)).flatMap lstCells ++ junk := by
  have hi := (List.getElem?_eq_some_iff.1 hx).1
  rw [cells_set hx (y := mdX x s x.l.ev x.l.pre x.l.pri) (by omega) rfl, cells_set (x := mdX x s x.l.ev x.l.pre x.l.pri) (y := mdX x s a x.l.pre x.l.pri) (List.getElem?_set_self hi) (by omega) rfl, List.set_set, cells_set (x := mdX x s a x.l.pre x.l.pri) (y := mdX x s a b x.l.pri) (List.getElem?_set_self hi) (by omega) rfl, List.set_set, cells_set (x := mdX x s a b x.l.pri) (y := mdX x s a b c) (List.getElem?_set_self hi) (by omega) rfl, List.set_set]
theorem mdX_ok {d : DqV} (hok : DqOk d) {i c a b e : Nat} {x : LstV} {A : Option Addr} {s : Bool} (hx : d.xs[i]? = some x) (ha : a ≤ 255) (hb : b ≤ 255) (he : e ≤ 255) : DqOk ⟨d.step, A, c, d.xs.set i (mdX x s a b e), d.pv⟩ := by
  have hxo := hok.lists x (List.mem_of_getElem? hx)
  have hi := (List.getElem?_eq_some_iff.1 hx).1
  refine dqok_set hok hx ⟨hxo.first, ha, hb, he, hxo.tabs, hxo.tab⟩ ?_ hok.step (fun h => h) (ptr_keep hok.ptr hi fun y hy e => ?_)
  · show totT (lsOf d) + x.l.tabs.length ≤ _
    have := hok.tot
    omega
  · obtain ⟨x1, t, h1, h2, h3⟩ := hok.ptr y hy
    rw [e, hx] at h1
    injection h1 with h1
    subst h1
    exact ⟨t, h2, h3⟩
attribute [local irreducible] blk row bytesA starL memA segA roB otA entA tblA
set_option maxHeartbeats 16000000 in
theorem dmode_spec {p : Nat} {d : DqV} {w : World} (hA : Hold (dqL p d) w) (hok : DqOk d) (hoff : Off d) (c : CmdV) (hc : c.code = 24) (hcok : c.Ok) :
    Calls Try.prog 49 #[.pointer (some ⟨p, 0, none⟩), .agg (cmdC c).toArray] w (Ret w (dqL p d) (DoOut p c d)) := by
  have hmx : maxLen = 2 ^ 63 - 1 := rfl
  have hok0 := hok
  obtain ⟨hlen, hst, htot, hlists, hfree, hptr⟩ := hok
  have ha0 := hcok.a0
  have ha1 := hcok.a1
  have ha2 := hcok.a2
  have ha3 := hcok.a3
  have ha4 := hcok.a4
  refine enter (vs := [.pointer (some ⟨p, 0, none⟩), .agg (cmdC c).toArray]) Try.func49 rfl Try.ntmps49 rfl hA ?_
  refine c_fact (p := DqSh d) (fun w h => dq_sh (F := []) h) ?_
  rintro ⟨⟨hc1, hc2⟩, hgA, htv⟩
  refine c_hp (hp' := [blk p [.int .i64 4, .int .i64 d.step, .slice d.A d.xs.length d.c, ptV d.pv] 98, row 27 8 (.slice d.A d.xs.length d.c) d.xs.length (d.xs.flatMap lstCells), starL (d.xs.map tblA), ptA d.pv]) (fun w h => h) ?_
  simp only [cmdC]
  (repeat (first | (refine i_dst ?_; (first | (refine i_move ?_; refine l_q rfl rfl rfl (q_move rfl) ?_) | (refine i_assign ?_; refine l_q rfl rfl rfl (q_assign rfl) ?_) | (refine i_load ?_; refine l_q rfl rfl rfl (by ((exact q_ld1 tab rfl rfl rfl (by first | ((repeat (first | exact List.Mem.head _ | apply List.Mem.tail)); done) | fail) (by (rfl))))) ?_) | (refine i_ix ?_; refine l_q rfl rfl rfl (by (exact q_indexAddrA1 tab rfl rfl rfl rfl (by omega))) ?_) | (refine i_box ?_; (refine l_boxA rfl rfl (fun _ => ?_))) | (refine l_q rfl rfl rfl (by ((apply iq_fld; (exact q_fieldAddr tab rfl rfl rfl rfl rfl rfl rfl)))) ?_))) | refine d_seq ?_ | refine c_region ?_ | refine l_nil ?_ | (refine i_q ?_; (refine d_then ?_))))
  rename_i b3
  (refine l_call0 rfl rfl Try.func60 rfl (by decide) (fun w' h => dlist_spec (Ro.empty (h.mem (X := blk p [.int .i64 4, .int .i64 d.step, .slice d.A d.xs.length d.c, ptV d.pv] 98) (by first | ((repeat (first | exact List.Mem.head _ | apply List.Mem.tail)); done) | fail))) hgA c.a0 ha0) (fun v B hv => ?_); obtain ⟨rfl, rfl⟩ := hv)
  by_cases hi : c.a0 < d.xs.length
  · rw [if_pos hi]
    obtain ⟨x, hx⟩ : ∃ x, d.xs[c.a0]? = some x := ⟨_, List.getElem?_eq_getElem hi⟩
    have hxo := hoff x (List.mem_of_getElem? hx)
    obtain ⟨g, hg⟩ := hgA (by omega)
    have hnn : (adr d.A (c.a0 * 8)).isNone = false := by rw [hg, adr_some]; rfl
    by_cases hb : c.a1 ≤ 1
    · by_cases hb2 : c.a2 < 4
      · by_cases hb3 : c.a3 = 0
        · (repeat (first | (refine i_dst ?_; ((refine i_assign ?_; refine l_q rfl rfl rfl (q_assign rfl) ?_))) | refine d_seq ?_ | refine l_nil ?_ | refine c_block ?_ | (refine i_q ?_; (refine d_then ?_))))
          (refine a_begin mixed _ 26 rfl (fun w h => h) ?_)
          ((refine a_q 0 rfl rfl rfl rfl rfl (by decide +kernel) (q_move rfl) ?_; refine a_q 1 rfl rfl rfl rfl rfl (by decide +kernel) (by (exact q_eqnil tab rfl rfl rfl)) ?_; refine a_q 2 rfl rfl rfl rfl rfl (by decide +kernel) (q_move rfl) ?_; ((refine a_known 15 false rfl (by (assumption)) ?_; ((refine a_gt 3 rfl rfl rfl rfl rfl rfl rfl (by decide +kernel) (by ((apply iq_fld; (exact q_fieldAddr tab rfl rfl rfl rfl rfl rfl rfl)))) ?_)))); (refine a_gt 4 rfl rfl rfl rfl rfl rfl rfl (by decide +kernel) (by (exact q_indexAddrA1 tab rfl rfl rfl rfl (by omega))) ?_); ((refine a_gt 5 rfl rfl rfl rfl rfl rfl rfl (by decide +kernel) (by ((exact q_ld1 tab rfl rfl rfl (by first | ((repeat (first | exact List.Mem.head _ | apply List.Mem.tail)); done) | fail) (by (rfl))))) ?_)); (refine a_gt 6 rfl rfl rfl rfl rfl rfl rfl (by decide +kernel) (by (exact q_gtr rfl rfl)) ?_); refine a_q 7 rfl rfl rfl rfl rfl (by decide +kernel) (by (exact q_pick_f rfl rfl)) ?_; refine a_q 8 rfl rfl rfl rfl rfl (by decide +kernel) (q_move rfl) ?_; ((refine a_known 21 false rfl (by (exact decide_eq_false (by omega))) ?_; ((refine a_gt 9 rfl rfl rfl rfl rfl rfl rfl (by decide +kernel) (by ((apply iq_fld; (exact q_fieldAddr tab rfl rfl rfl rfl rfl rfl rfl)))) ?_)))); (refine a_gt 10 rfl rfl rfl rfl rfl rfl rfl (by decide +kernel) (by (exact q_indexAddrA1 tab rfl rfl rfl rfl (by omega))) ?_); ((refine a_gt 11 rfl rfl rfl rfl rfl rfl rfl (by decide +kernel) (by ((exact q_ld1 tab rfl rfl rfl (by first | ((repeat (first | exact List.Mem.head _ | apply List.Mem.tail)); done) | fail) (by (rfl))))) ?_)); ((refine a_gt 12 rfl rfl rfl rfl rfl rfl rfl (by decide +kernel) (by ((apply iq_cv; (exact q_conv tab rfl rfl rfl (by (exact wr_i64 (by omega))))))) ?_)); (refine a_gt 13 rfl rfl rfl rfl rfl rfl rfl (by decide +kernel) (q_move rfl) ?_); ((refine a_gt 14 rfl rfl rfl rfl rfl rfl rfl (by decide +kernel) (by ((apply iq_nck; (exact q_nilck rfl)))) ?_)); ((refine a_gt 15 rfl rfl rfl rfl rfl rfl rfl (by decide +kernel) (by ((apply iq_fld; (exact q_fieldAddr tab rfl rfl rfl rfl rfl rfl rfl)))) ?_)); ((refine a_gt 16 rfl rfl rfl rfl rfl rfl rfl (by decide +kernel) (by ((exact q_ld1 tab rfl rfl rfl (by first | ((repeat (first | exact List.Mem.head _ | apply List.Mem.tail)); done) | fail) (by (rfl))))) ?_)); (refine a_gt 17 rfl rfl rfl rfl rfl rfl rfl (by decide +kernel) (by (exact q_geq rfl rfl)) ?_); refine a_q 18 rfl rfl rfl rfl rfl (by decide +kernel) (by (exact q_pick_f rfl rfl)) ?_; refine a_q 19 rfl rfl rfl rfl rfl (by decide +kernel) (q_move rfl) ?_; ((refine a_known 32 false rfl (by (exact decide_eq_false (by omega))) ?_; ((refine a_gt 20 rfl rfl rfl rfl rfl rfl rfl (by decide +kernel) (by ((apply iq_fld; (exact q_fieldAddr tab rfl rfl rfl rfl rfl rfl rfl)))) ?_)))); (refine a_gt 21 rfl rfl rfl rfl rfl rfl rfl (by decide +kernel) (by (exact q_indexAddrA1 tab rfl rfl rfl rfl (by omega))) ?_); ((refine a_gt 22 rfl rfl rfl rfl rfl rfl rfl (by decide +kernel) (by ((exact q_ld1 tab rfl rfl rfl (by first | ((repeat (first | exact List.Mem.head _ | apply List.Mem.tail)); done) | fail) (by (rfl))))) ?_)); (refine a_gt 23 rfl rfl rfl rfl rfl rfl rfl (by decide +kernel) (by (exact q_eql rfl rfl)) ?_); refine a_q 24 rfl rfl rfl rfl rfl (by decide +kernel) (by (exact q_pick_f rfl rfl)) ?_; refine a_q 25 rfl rfl rfl rfl rfl (by decide +kernel) (q_assign rfl) ?_))
          refine a_done (by decide +kernel) ?_
          (repeat (first | (refine i_dst ?_; ((refine i_assign ?_; refine l_q rfl rfl rfl (q_assign rfl) ?_))) | refine d_seq ?_ | refine c_region ?_ | refine l_nil ?_ | (refine i_q ?_; (first | refine d_then ?_ | refine d_then_ret ?_ | refine t_block_ret ?_)) | refine c_ret ?_ | (refine i_cond ?_; (refine c_ct rfl (by (exact decide_eq_true (by omega))) ?_))))
          exact t_hp (hp' := []) (fun w h => h.psub (by first | ((repeat (first | exact PSub.nil | exact Ext.head | apply Ext.tail | apply PSub.cons)); done) | fail)) (t_ret2 Try.results49 rfl rfl (.inl ⟨_, _, rfl, by omega⟩))
        · (repeat (first | (refine i_dst ?_; ((refine i_assign ?_; refine l_q rfl rfl rfl (q_assign rfl) ?_))) | refine d_seq ?_ | refine l_nil ?_ | refine c_block ?_ | (refine i_q ?_; (refine d_then ?_))))
          (refine a_begin mixed _ 26 rfl (fun w h => h) ?_)
          ((refine a_q 0 rfl rfl rfl rfl rfl (by decide +kernel) (q_move rfl) ?_; refine a_q 1 rfl rfl rfl rfl rfl (by decide +kernel) (by (exact q_eqnil tab rfl rfl rfl)) ?_; refine a_q 2 rfl rfl rfl rfl rfl (by decide +kernel) (q_move rfl) ?_; ((refine a_known 15 false rfl (by (assumption)) ?_; ((refine a_gt 3 rfl rfl rfl rfl rfl rfl rfl (by decide +kernel) (by ((apply iq_fld; (exact q_fieldAddr tab rfl rfl rfl rfl rfl rfl rfl)))) ?_)))); (refine a_gt 4 rfl rfl rfl rfl rfl rfl rfl (by decide +kernel) (by (exact q_indexAddrA1 tab rfl rfl rfl rfl (by omega))) ?_); ((refine a_gt 5 rfl rfl rfl rfl rfl rfl rfl (by decide +kernel) (by ((exact q_ld1 tab rfl rfl rfl (by first | ((repeat (first | exact List.Mem.head _ | apply List.Mem.tail)); done) | fail) (by (rfl))))) ?_)); (refine a_gt 6 rfl rfl rfl rfl rfl rfl rfl (by decide +kernel) (by (exact q_gtr rfl rfl)) ?_); refine a_q 7 rfl rfl rfl rfl rfl (by decide +kernel) (by (exact q_pick_f rfl rfl)) ?_; refine a_q 8 rfl rfl rfl rfl rfl (by decide +kernel) (q_move rfl) ?_; ((refine a_known 21 false rfl (by (exact decide_eq_false (by omega))) ?_; ((refine a_gt 9 rfl rfl rfl rfl rfl rfl rfl (by decide +kernel) (by ((apply iq_fld; (exact q_fieldAddr tab rfl rfl rfl rfl rfl rfl rfl)))) ?_)))); (refine a_gt 10 rfl rfl rfl rfl rfl rfl rfl (by decide +kernel) (by (exact q_indexAddrA1 tab rfl rfl rfl rfl (by omega))) ?_); ((refine a_gt 11 rfl rfl rfl rfl rfl rfl rfl (by decide +kernel) (by ((exact q_ld1 tab rfl rfl rfl (by first | ((repeat (first | exact List.Mem.head _ | apply List.Mem.tail)); done) | fail) (by (rfl))))) ?_)); ((refine a_gt 12 rfl rfl rfl rfl rfl rfl rfl (by decide +kernel) (by ((apply iq_cv; (exact q_conv tab rfl rfl rfl (by (exact wr_i64 (by omega))))))) ?_)); (refine a_gt 13 rfl rfl rfl rfl rfl rfl rfl (by decide +kernel) (q_move rfl) ?_); ((refine a_gt 14 rfl rfl rfl rfl rfl rfl rfl (by decide +kernel) (by ((apply iq_nck; (exact q_nilck rfl)))) ?_)); ((refine a_gt 15 rfl rfl rfl rfl rfl rfl rfl (by decide +kernel) (by ((apply iq_fld; (exact q_fieldAddr tab rfl rfl rfl rfl rfl rfl rfl)))) ?_)); ((refine a_gt 16 rfl rfl rfl rfl rfl rfl rfl (by decide +kernel) (by ((exact q_ld1 tab rfl rfl rfl (by first | ((repeat (first | exact List.Mem.head _ | apply List.Mem.tail)); done) | fail) (by (rfl))))) ?_)); (refine a_gt 17 rfl rfl rfl rfl rfl rfl rfl (by decide +kernel) (by (exact q_geq rfl rfl)) ?_); refine a_q 18 rfl rfl rfl rfl rfl (by decide +kernel) (by (exact q_pick_f rfl rfl)) ?_; refine a_q 19 rfl rfl rfl rfl rfl (by decide +kernel) (q_move rfl) ?_; ((refine a_known 32 false rfl (by (exact decide_eq_false (by omega))) ?_; ((refine a_gt 20 rfl rfl rfl rfl rfl rfl rfl (by decide +kernel) (by ((apply iq_fld; (exact q_fieldAddr tab rfl rfl rfl rfl rfl rfl rfl)))) ?_)))); (refine a_gt 21 rfl rfl rfl rfl rfl rfl rfl (by decide +kernel) (by (exact q_indexAddrA1 tab rfl rfl rfl rfl (by omega))) ?_); ((refine a_gt 22 rfl rfl rfl rfl rfl rfl rfl (by decide +kernel) (by ((exact q_ld1 tab rfl rfl rfl (by first | ((repeat (first | exact List.Mem.head _ | apply List.Mem.tail)); done) | fail) (by (rfl))))) ?_)); (refine a_gt 23 rfl rfl rfl rfl rfl rfl rfl (by decide +kernel) (by (exact q_eql rfl rfl)) ?_); refine a_q 24 rfl rfl rfl rfl rfl (by decide +kernel) (by (exact q_pick_f rfl rfl)) ?_; refine a_q 25 rfl rfl rfl rfl rfl (by decide +kernel) (q_assign rfl) ?_))
          refine a_done (by decide +kernel) ?_
          (repeat (first | (refine i_dst ?_; (first | (refine i_move ?_; refine l_q rfl rfl rfl (q_move rfl) ?_) | (refine i_assign ?_; refine l_q rfl rfl rfl (q_assign rfl) ?_) | (refine i_load ?_; refine l_q rfl rfl rfl (by ((exact q_ldF tab rfl rfl rfl (by ((exact fun w h => row_src (h.mem (by first | ((repeat (first | exact List.Mem.head _ | apply List.Mem.tail)); done) | fail))))) (by exact fun _ => rfl) (by assumption) (by exact rfl)))) ?_) | (refine l_q rfl rfl rfl (by (first | (apply iq_fld; ((exact q_fldS tab rfl rfl rfl rfl rfl rfl rfl (by ((exact fun w h => row_src (h.mem (by first | ((repeat (first | exact List.Mem.head _ | apply List.Mem.tail)); done) | fail))))) (by (omega))))) | (apply iq_nck; ((exact q_nckS rfl (by ((exact fun w h => row_src (h.mem (by first | ((repeat (first | exact List.Mem.head _ | apply List.Mem.tail)); done) | fail))))) (by (omega))))))) ?_))) | refine d_seq ?_ | refine c_region ?_ | refine l_nil ?_ | (refine i_q ?_; (first | refine d_then ?_ | refine t_block ?_)) | refine c_skip ?_ | (refine i_cond ?_; (refine c_cf rfl (by (first | assumption | exact decide_eq_false (by omega))) ?_))))
          rw [hg]
          simp only [adr_some]
          refine c_ex (fun w h => row_open (by omega) (h.ext (X := row 27 8 (.slice (some ⟨g, 0, none⟩) d.xs.length d.c) d.xs.length (d.xs.flatMap lstCells)) (by first | ((repeat (first | exact Ext.head | apply Ext.tail)); done) | fail))) ?_
          rintro ⟨g', junk⟩ ⟨hgg, hg1, hg2, hg3⟩
          injection hgg with hgg
          injection hgg with hgg
          subst hgg
          dsimp only at hg3 ⊢
          refine c_hp (hp' := blk g (d.xs.flatMap lstCells ++ junk) 27 :: [blk b3 [.int .u8 c.code, .int .u8 c.a0, .int .u8 c.a1, .int .u8 c.a2, .int .u8 c.a3, .int .u8 c.a4, .int .u32 c.w, .slice none 0 0] 59, blk p [.int .i64 4, .int .i64 d.step, .slice (some ⟨g, 0, none⟩) d.xs.length d.c, ptV d.pv] 98, starL (d.xs.map tblA), ptA d.pv]) (fun w h => h.psub (by first | ((repeat (first | exact PSub.nil | exact Ext.head | apply Ext.tail | apply PSub.cons)); done) | fail)) ?_
          (refine a_begin mixed [blk b3 [.int .u8 c.code, .int .u8 c.a0, .int .u8 c.a1, .int .u8 c.a2, .int .u8 c.a3, .int .u8 c.a4, .int .u32 c.w, .slice none 0 0] 59, blk p [.int .i64 4, .int .i64 d.step, .slice (some ⟨g, 0, none⟩) d.xs.length d.c, ptV d.pv] 98, starL (d.xs.map tblA), ptA d.pv] 29 rfl (fun w h => h.subl (by first | ((repeat (first | exact SubL.nil | apply SubL.keep | apply SubL.skip)); done) | fail)) ?_)
          ((refine a_q 0 rfl rfl rfl rfl rfl (by decide +kernel) (q_move rfl) ?_; refine a_q 1 rfl rfl rfl rfl rfl (by decide +kernel) (q_move rfl) ?_; refine a_q 2 rfl rfl rfl rfl rfl (by decide +kernel) (q_move rfl) ?_; refine a_q 3 rfl rfl rfl rfl rfl (by decide +kernel) (q_move rfl) ?_; refine a_q 4 rfl rfl rfl rfl rfl (by decide +kernel) (by ((apply iq_fld; (exact q_fieldAddr tab rfl rfl rfl rfl rfl rfl rfl)))) ?_; refine a_q 5 rfl rfl rfl rfl rfl (by decide +kernel) (by (exact q_indexAddrA1 tab rfl rfl rfl rfl (by omega))) ?_; ((refine a_q 6 rfl rfl rfl rfl rfl (by decide +kernel) (by ((exact q_ld1 tab rfl rfl rfl (by first | ((repeat (first | exact List.Mem.head _ | apply List.Mem.tail)); done) | fail) (by (rfl))))) ?_)); refine a_q 7 rfl rfl rfl rfl rfl (by decide +kernel) (by (exact q_eql rfl rfl)) ?_; refine a_q 8 rfl rfl rfl rfl rfl (by decide +kernel) (by ((apply iq_fld; (exact q_fieldAddr tab rfl rfl rfl rfl rfl rfl rfl)))) ?_; refine a_q 9 rfl rfl rfl rfl rfl (by decide +kernel) (by (exact q_indexAddrA1 tab rfl rfl rfl rfl (by omega))) ?_; ((refine a_q 10 rfl rfl rfl rfl rfl (by decide +kernel) (by ((exact q_ld1 tab rfl rfl rfl (by first | ((repeat (first | exact List.Mem.head _ | apply List.Mem.tail)); done) | fail) (by (rfl))))) ?_)); refine a_q 11 rfl rfl rfl rfl rfl (by decide +kernel) (by ((apply iq_fld; (exact q_fieldAddr tab rfl rfl rfl rfl rfl rfl rfl)))) ?_; refine a_q 12 rfl rfl rfl rfl rfl (by decide +kernel) (by (exact q_indexAddrA1 tab rfl rfl rfl rfl (by omega))) ?_; ((refine a_q 13 rfl rfl rfl rfl rfl (by decide +kernel) (by ((exact q_ld1 tab rfl rfl rfl (by first | ((repeat (first | exact List.Mem.head _ | apply List.Mem.tail)); done) | fail) (by (rfl))))) ?_)); refine a_q 14 rfl rfl rfl rfl rfl (by decide +kernel) (by ((apply iq_fld; (exact q_fieldAddr tab rfl rfl rfl rfl rfl rfl rfl)))) ?_; refine a_q 15 rfl rfl rfl rfl rfl (by decide +kernel) (by (exact q_indexAddrA1 tab rfl rfl rfl rfl (by omega))) ?_; ((refine a_q 16 rfl rfl rfl rfl rfl (by decide +kernel) (by ((exact q_ld1 tab rfl rfl rfl (by first | ((repeat (first | exact List.Mem.head _ | apply List.Mem.tail)); done) | fail) (by (rfl))))) ?_)); refine a_q 17 rfl rfl rfl rfl rfl (by decide +kernel) (by ((apply iq_nck; (exact q_nilck rfl)))) ?_; refine a_q 18 rfl rfl rfl rfl rfl (by decide +kernel) (by ((apply iq_fld; (exact q_fieldAddr tab rfl rfl rfl rfl rfl rfl rfl)))) ?_))
          refine a_e 19 rfl (by decide +kernel) rfl (fun K hK => e_setI tab rfl rfl rfl rfl (by first | ((repeat (first | exact Upd.head | apply Upd.tail)); done) | fail) (by first | omega | (simp only [List.length_set]; omega)) (hK _ _ (fun w h => h.subl (by first | ((repeat (first | exact SubL.nil | apply SubL.keep | apply SubL.skip)); done) | fail)) ?_))
          clear hK
          ((refine a_q 20 rfl rfl rfl rfl rfl (by decide +kernel) (by ((apply iq_nck; (exact q_nilck rfl)))) ?_; refine a_q 21 rfl rfl rfl rfl rfl (by decide +kernel) (by ((apply iq_fld; (exact q_fieldAddr tab rfl rfl rfl rfl rfl rfl rfl)))) ?_))
          refine a_e 22 rfl (by decide +kernel) rfl (fun K hK => e_setI tab rfl rfl rfl rfl (by first | ((repeat (first | exact Upd.head | apply Upd.tail)); done) | fail) (by first | omega | (simp only [List.length_set]; omega)) (hK _ _ (fun w h => h.subl (by first | ((repeat (first | exact SubL.nil | apply SubL.keep | apply SubL.skip)); done) | fail)) ?_))
          clear hK
          ((refine a_q 23 rfl rfl rfl rfl rfl (by decide +kernel) (by ((apply iq_nck; (exact q_nilck rfl)))) ?_; refine a_q 24 rfl rfl rfl rfl rfl (by decide +kernel) (by ((apply iq_fld; (exact q_fieldAddr tab rfl rfl rfl rfl rfl rfl rfl)))) ?_))
          refine a_e 25 rfl (by decide +kernel) rfl (fun K hK => e_setI tab rfl rfl rfl rfl (by first | ((repeat (first | exact Upd.head | apply Upd.tail)); done) | fail) (by first | omega | (simp only [List.length_set]; omega)) (hK _ _ (fun w h => h.subl (by first | ((repeat (first | exact SubL.nil | apply SubL.keep | apply SubL.skip)); done) | fail)) ?_))
          clear hK
          ((refine a_q 26 rfl rfl rfl rfl rfl (by decide +kernel) (by ((apply iq_nck; (exact q_nilck rfl)))) ?_; refine a_q 27 rfl rfl rfl rfl rfl (by decide +kernel) (by ((apply iq_fld; (exact q_fieldAddr tab rfl rfl rfl rfl rfl rfl rfl)))) ?_))
          refine a_e 28 rfl (by decide +kernel) rfl (fun K hK => e_setI tab rfl rfl rfl rfl (by first | ((repeat (first | exact Upd.head | apply Upd.tail)); done) | fail) (by first | omega | (simp only [List.length_set]; omega)) (hK _ _ (fun w h => h.subl (by first | ((repeat (first | exact SubL.nil | apply SubL.keep | apply SubL.skip)); done) | fail)) ?_))
          clear hK
          refine a_done (by decide +kernel) ?_
          (repeat (first | (refine i_dst ?_; ((refine i_assign ?_; refine l_q rfl rfl rfl (q_assign rfl) ?_))) | refine d_seq ?_ | refine c_region ?_ | refine l_nil ?_ | (refine i_q ?_; (refine d_then ?_)) | refine c_ret ?_))
          refine t_hp (hp' := dqL p ⟨d.step, some ⟨g, 0, none⟩, d.c, d.xs.set c.a0 (mdX x (decide (c.a1 = 1)) c.a2 c.a3 c.a4), d.pv⟩) (fun w h => ?_) (t_ret2 Try.results49 rfl rfl (.inr ⟨_, _, rfl, rfl, mdX_ok hok0 hx ha2 ha3 ha4, fun _ => off_set hoff hxo, ⟨by omega, by omega, fun _ => ⟨x.l, by rw [lsOf, List.getElem?_map, hx]; rfl, ls_set _ _ _⟩, by omega, by omega⟩⟩))
          refine same_st rfl hx (mdX_tbl x _ _ _ _) hg1 hg2 hg3 ?_
          rw [← md_cells hx]
          simp only [Nat.zero_add] at h
          rw [show decide (c.a1 = 1) = decide ((c.a1 : Int) = 1) by simp only [decide_eq_decide]; omega]
          exact h.psub (by first | ((repeat (first | exact PSub.nil | exact Ext.head | apply Ext.tail | apply PSub.cons)); done) | fail)
      · (repeat (first | (refine i_dst ?_; ((refine i_assign ?_; refine l_q rfl rfl rfl (q_assign rfl) ?_))) | refine d_seq ?_ | refine l_nil ?_ | refine c_block ?_ | (refine i_q ?_; (refine d_then ?_))))
        (refine a_begin mixed _ 26 rfl (fun w h => h) ?_)
        ((refine a_q 0 rfl rfl rfl rfl rfl (by decide +kernel) (q_move rfl) ?_; refine a_q 1 rfl rfl rfl rfl rfl (by decide +kernel) (by (exact q_eqnil tab rfl rfl rfl)) ?_; refine a_q 2 rfl rfl rfl rfl rfl (by decide +kernel) (q_move rfl) ?_; ((refine a_known 15 false rfl (by (assumption)) ?_; ((refine a_gt 3 rfl rfl rfl rfl rfl rfl rfl (by decide +kernel) (by ((apply iq_fld; (exact q_fieldAddr tab rfl rfl rfl rfl rfl rfl rfl)))) ?_)))); (refine a_gt 4 rfl rfl rfl rfl rfl rfl rfl (by decide +kernel) (by (exact q_indexAddrA1 tab rfl rfl rfl rfl (by omega))) ?_); ((refine a_gt 5 rfl rfl rfl rfl rfl rfl rfl (by decide +kernel) (by ((exact q_ld1 tab rfl rfl rfl (by first | ((repeat (first | exact List.Mem.head _ | apply List.Mem.tail)); done) | fail) (by (rfl))))) ?_)); (refine a_gt 6 rfl rfl rfl rfl rfl rfl rfl (by decide +kernel) (by (exact q_gtr rfl rfl)) ?_); refine a_q 7 rfl rfl rfl rfl rfl (by decide +kernel) (by (exact q_pick_f rfl rfl)) ?_; refine a_q 8 rfl rfl rfl rfl rfl (by decide +kernel) (q_move rfl) ?_; ((refine a_known 21 false rfl (by (exact decide_eq_false (by omega))) ?_; ((refine a_gt 9 rfl rfl rfl rfl rfl rfl rfl (by decide +kernel) (by ((apply iq_fld; (exact q_fieldAddr tab rfl rfl rfl rfl rfl rfl rfl)))) ?_)))); (refine a_gt 10 rfl rfl rfl rfl rfl rfl rfl (by decide +kernel) (by (exact q_indexAddrA1 tab rfl rfl rfl rfl (by omega))) ?_); ((refine a_gt 11 rfl rfl rfl rfl rfl rfl rfl (by decide +kernel) (by ((exact q_ld1 tab rfl rfl rfl (by first | ((repeat (first | exact List.Mem.head _ | apply List.Mem.tail)); done) | fail) (by (rfl))))) ?_)); ((refine a_gt 12 rfl rfl rfl rfl rfl rfl rfl (by decide +kernel) (by ((apply iq_cv; (exact q_conv tab rfl rfl rfl (by (exact wr_i64 (by omega))))))) ?_)); (refine a_gt 13 rfl rfl rfl rfl rfl rfl rfl (by decide +kernel) (q_move rfl) ?_); ((refine a_gt 14 rfl rfl rfl rfl rfl rfl rfl (by decide +kernel) (by ((apply iq_nck; (exact q_nilck rfl)))) ?_)); ((refine a_gt 15 rfl rfl rfl rfl rfl rfl rfl (by decide +kernel) (by ((apply iq_fld; (exact q_fieldAddr tab rfl rfl rfl rfl rfl rfl rfl)))) ?_)); ((refine a_gt 16 rfl rfl rfl rfl rfl rfl rfl (by decide +kernel) (by ((exact q_ld1 tab rfl rfl rfl (by first | ((repeat (first | exact List.Mem.head _ | apply List.Mem.tail)); done) | fail) (by (rfl))))) ?_)); (refine a_gt 17 rfl rfl rfl rfl rfl rfl rfl (by decide +kernel) (by (exact q_geq rfl rfl)) ?_); refine a_q 18 rfl rfl rfl rfl rfl (by decide +kernel) (by (exact q_pick_f rfl rfl)) ?_; refine a_q 19 rfl rfl rfl rfl rfl (by decide +kernel) (q_move rfl) ?_; ((refine a_known 32 true rfl (by (exact decide_eq_true (by omega))) ?_; (refine a_gf 20 rfl rfl rfl rfl rfl rfl rfl rfl (by decide +kernel) ?_))); (refine a_gf 21 rfl rfl rfl rfl rfl rfl rfl rfl (by decide +kernel) ?_); (refine a_gf 22 rfl rfl rfl rfl rfl rfl rfl rfl (by decide +kernel) ?_); (refine a_gf 23 rfl rfl rfl rfl rfl rfl rfl rfl (by decide +kernel) ?_); refine a_q 24 rfl rfl rfl rfl rfl (by decide +kernel) (by (exact q_pick_t rfl rfl)) ?_; refine a_q 25 rfl rfl rfl rfl rfl (by decide +kernel) (q_assign rfl) ?_))
        refine a_done (by decide +kernel) ?_
        (repeat (first | (refine i_dst ?_; ((refine i_assign ?_; refine l_q rfl rfl rfl (q_assign rfl) ?_))) | refine d_seq ?_ | refine c_region ?_ | refine l_nil ?_ | (refine i_q ?_; (first | refine d_then ?_ | refine d_then_ret ?_ | refine t_block_ret ?_)) | refine c_ret ?_ | (refine i_cond ?_; (refine c_ct rfl (by (rfl)) ?_))))
        exact t_hp (hp' := []) (fun w h => h.psub (by first | ((repeat (first | exact PSub.nil | exact Ext.head | apply Ext.tail | apply PSub.cons)); done) | fail)) (t_ret2 Try.results49 rfl rfl (.inl ⟨_, _, rfl, by omega⟩))
    · (repeat (first | (refine i_dst ?_; ((refine i_assign ?_; refine l_q rfl rfl rfl (q_assign rfl) ?_))) | refine d_seq ?_ | refine l_nil ?_ | refine c_block ?_ | (refine i_q ?_; (refine d_then ?_))))
      (refine a_begin mixed _ 26 rfl (fun w h => h) ?_)
      ((refine a_q 0 rfl rfl rfl rfl rfl (by decide +kernel) (q_move rfl) ?_; refine a_q 1 rfl rfl rfl rfl rfl (by decide +kernel) (by (exact q_eqnil tab rfl rfl rfl)) ?_; refine a_q 2 rfl rfl rfl rfl rfl (by decide +kernel) (q_move rfl) ?_; ((refine a_known 15 false rfl (by (assumption)) ?_; ((refine a_gt 3 rfl rfl rfl rfl rfl rfl rfl (by decide +kernel) (by ((apply iq_fld; (exact q_fieldAddr tab rfl rfl rfl rfl rfl rfl rfl)))) ?_)))); (refine a_gt 4 rfl rfl rfl rfl rfl rfl rfl (by decide +kernel) (by (exact q_indexAddrA1 tab rfl rfl rfl rfl (by omega))) ?_); ((refine a_gt 5 rfl rfl rfl rfl rfl rfl rfl (by decide +kernel) (by ((exact q_ld1 tab rfl rfl rfl (by first | ((repeat (first | exact List.Mem.head _ | apply List.Mem.tail)); done) | fail) (by (rfl))))) ?_)); (refine a_gt 6 rfl rfl rfl rfl rfl rfl rfl (by decide +kernel) (by (exact q_gtr rfl rfl)) ?_); refine a_q 7 rfl rfl rfl rfl rfl (by decide +kernel) (by (exact q_pick_f rfl rfl)) ?_; refine a_q 8 rfl rfl rfl rfl rfl (by decide +kernel) (q_move rfl) ?_; ((refine a_known 21 true rfl (by (exact decide_eq_true (by omega))) ?_; (refine a_gf 9 rfl rfl rfl rfl rfl rfl rfl rfl (by decide +kernel) ?_))); (refine a_gf 10 rfl rfl rfl rfl rfl rfl rfl rfl (by decide +kernel) ?_); (refine a_gf 11 rfl rfl rfl rfl rfl rfl rfl rfl (by decide +kernel) ?_); (refine a_gf 12 rfl rfl rfl rfl rfl rfl rfl rfl (by decide +kernel) ?_); (refine a_gf 13 rfl rfl rfl rfl rfl rfl rfl rfl (by decide +kernel) ?_); (refine a_gf 14 rfl rfl rfl rfl rfl rfl rfl rfl (by decide +kernel) ?_); (refine a_gf 15 rfl rfl rfl rfl rfl rfl rfl rfl (by decide +kernel) ?_); (refine a_gf 16 rfl rfl rfl rfl rfl rfl rfl rfl (by decide +kernel) ?_); (refine a_gf 17 rfl rfl rfl rfl rfl rfl rfl rfl (by decide +kernel) ?_); refine a_q 18 rfl rfl rfl rfl rfl (by decide +kernel) (by (exact q_pick_t rfl rfl)) ?_; refine a_q 19 rfl rfl rfl rfl rfl (by decide +kernel) (q_move rfl) ?_; (refine a_gf 20 rfl rfl rfl rfl rfl rfl rfl rfl (by decide +kernel) ?_); (refine a_gf 21 rfl rfl rfl rfl rfl rfl rfl rfl (by decide +kernel) ?_); (refine a_gf 22 rfl rfl rfl rfl rfl rfl rfl rfl (by decide +kernel) ?_); (refine a_gf 23 rfl rfl rfl rfl rfl rfl rfl rfl (by decide +kernel) ?_); refine a_q 24 rfl rfl rfl rfl rfl (by decide +kernel) (by (exact q_pick_t rfl rfl)) ?_; refine a_q 25 rfl rfl rfl rfl rfl (by decide +kernel) (q_assign rfl) ?_))
      refine a_done (by decide +kernel) ?_
      (repeat (first | (refine i_dst ?_; ((refine i_assign ?_; refine l_q rfl rfl rfl (q_assign rfl) ?_))) | refine d_seq ?_ | refine c_region ?_ | refine l_nil ?_ | (refine i_q ?_; (first | refine d_then ?_ | refine d_then_ret ?_ | refine t_block_ret ?_)) | refine c_ret ?_ | (refine i_cond ?_; (refine c_ct rfl (by (rfl)) ?_))))
      exact t_hp (hp' := []) (fun w h => h.psub (by first | ((repeat (first | exact PSub.nil | exact Ext.head | apply Ext.tail | apply PSub.cons)); done) | fail)) (t_ret2 Try.results49 rfl rfl (.inl ⟨_, _, rfl, by omega⟩))
  · rw [if_neg hi]
    (repeat (first | (refine i_dst ?_; ((refine i_assign ?_; refine l_q rfl rfl rfl (q_assign rfl) ?_))) | refine d_seq ?_ | refine l_nil ?_ | refine c_block ?_ | (refine i_q ?_; (refine d_then ?_))))
    (refine a_begin mixed _ 26 rfl (fun w h => h) ?_)
    ((refine a_q 0 rfl rfl rfl rfl rfl (by decide +kernel) (q_move rfl) ?_; refine a_q 1 rfl rfl rfl rfl rfl (by decide +kernel) (by (exact q_eqnil tab rfl rfl rfl)) ?_; refine a_q 2 rfl rfl rfl rfl rfl (by decide +kernel) (q_move rfl) ?_; (refine a_gf 3 rfl rfl rfl rfl rfl rfl rfl rfl (by decide +kernel) ?_); (refine a_gf 4 rfl rfl rfl rfl rfl rfl rfl rfl (by decide +kernel) ?_); (refine a_gf 5 rfl rfl rfl rfl rfl rfl rfl rfl (by decide +kernel) ?_); (refine a_gf 6 rfl rfl rfl rfl rfl rfl rfl rfl (by decide +kernel) ?_); refine a_q 7 rfl rfl rfl rfl rfl (by decide +kernel) (by (exact q_pick_t rfl rfl)) ?_; refine a_q 8 rfl rfl rfl rfl rfl (by decide +kernel) (q_move rfl) ?_; (refine a_gf 9 rfl rfl rfl rfl rfl rfl rfl rfl (by decide +kernel) ?_); (refine a_gf 10 rfl rfl rfl rfl rfl rfl rfl rfl (by decide +kernel) ?_); (refine a_gf 11 rfl rfl rfl rfl rfl rfl rfl rfl (by decide +kernel) ?_); (refine a_gf 12 rfl rfl rfl rfl rfl rfl rfl rfl (by decide +kernel) ?_); (refine a_gf 13 rfl rfl rfl rfl rfl rfl rfl rfl (by decide +kernel) ?_); (refine a_gf 14 rfl rfl rfl rfl rfl rfl rfl rfl (by decide +kernel) ?_); (refine a_gf 15 rfl rfl rfl rfl rfl rfl rfl rfl (by decide +kernel) ?_); (refine a_gf 16 rfl rfl rfl rfl rfl rfl rfl rfl (by decide +kernel) ?_); (refine a_gf 17 rfl rfl rfl rfl rfl rfl rfl rfl (by decide +kernel) ?_); refine a_q 18 rfl rfl rfl rfl rfl (by decide +kernel) (by (exact q_pick_t rfl rfl)) ?_; refine a_q 19 rfl rfl rfl rfl rfl (by decide +kernel) (q_move rfl) ?_; (refine a_gf 20 rfl rfl rfl rfl rfl rfl rfl rfl (by decide +kernel) ?_); (refine a_gf 21 rfl rfl rfl rfl rfl rfl rfl rfl (by decide +kernel) ?_); (refine a_gf 22 rfl rfl rfl rfl rfl rfl rfl rfl (by decide +kernel) ?_); (refine a_gf 23 rfl rfl rfl rfl rfl rfl rfl rfl (by decide +kernel) ?_); refine a_q 24 rfl rfl rfl rfl rfl (by decide +kernel) (by (exact q_pick_t rfl rfl)) ?_; refine a_q 25 rfl rfl rfl rfl rfl (by decide +kernel) (q_assign rfl) ?_))
    refine a_done (by decide +kernel) ?_
    (repeat (first | (refine i_dst ?_; ((refine i_assign ?_; refine l_q rfl rfl rfl (q_assign rfl) ?_))) | refine d_seq ?_ | refine c_region ?_ | refine l_nil ?_ | (refine i_q ?_; (first | refine d_then ?_ | refine d_then_ret ?_ | refine t_block_ret ?_)) | refine c_ret ?_ | (refine i_cond ?_; (refine c_ct rfl (by (rfl)) ?_))))
    exact t_hp (hp' := []) (fun w h => h.psub (by first | ((repeat (first | exact PSub.nil | exact Ext.head | apply Ext.tail | apply PSub.cons)); done) | fail)) (t_ret2 Try.results49 rfl rfl (.inl ⟨_, _, rfl, by omega⟩))
end Go.Proofs.Ytboccjdncdaakaa

/-
  Layer 11: start, walked.
-/

set_option linter.unusedVariables false
set_option maxRecDepth 100000
namespace Go.Proofs.Ytboccjdncdaakaa
open Go.RowKit
attribute [local irreducible] TL TC TQ TK TO Qt TA
def stX (x : LstV) : LstV := ⟨⟨x.l.first, x.l.tabs, x.l.stim, x.l.ev, x.l.pre, x.l.pri, x.l.on, true⟩, x.tv, x.tvs⟩
theorem stX_tbl (x : LstV) : tblA (stX x) = tblA x := rfl
theorem stX_ok {d : DqV} (hok : DqOk d) {i c : Nat} {x : LstV} {A : Option Addr} (hx : d.xs[i]? = some x) : DqOk ⟨d.step, A, c, d.xs.set i (stX x), d.pv⟩ := by
  have hxo := hok.lists x (List.mem_of_getElem? hx)
  have hi := (List.getElem?_eq_some_iff.1 hx).1
  refine dqok_set hok hx ⟨hxo.first, hxo.ev, hxo.pre, hxo.pri, hxo.tabs, hxo.tab⟩ ?_ hok.step (fun h => h) (ptr_keep hok.ptr hi fun y hy e => ?_)
  · show totT (lsOf d) + x.l.tabs.length ≤ _
    have := hok.tot
    omega
  · obtain ⟨x1, t, h1, h2, h3⟩ := hok.ptr y hy
    rw [e, hx] at h1
    injection h1 with h1
    subst h1
    exact ⟨t, h2, h3⟩
theorem firstsL_len : ∀ (s : Nat) (ls : List ListI), (firstsL s ls).length = ls.length
  | _, [] => rfl
  | s, l :: r => by rw [firstsL, List.length_cons, firstsL_len, List.length_cons]
attribute [local irreducible] blk row bytesA starL memA segA roB otA entA tblA
set_option maxHeartbeats 16000000 in
theorem dstart_spec {p : Nat} {d : DqV} {w : World} (hA : Hold (dqL p d) w) (hok : DqOk d) (hoff : Off d) (c : CmdV) (hc : c.code = 25) (hc2' : c.a1 = 2) (hcok : c.Ok) :
    Calls Try.prog 50 #[.pointer (some ⟨p, 0, none⟩), .agg (cmdC c).toArray] w (Ret w (dqL p d) (DoOut p c d)) := by
  have hmx : maxLen = 2 ^ 63 - 1 := rfl
  have hok0 := hok
  obtain ⟨hlen, hst, htot, hlists, hfree, hptr⟩ := hok
  have ha0 := hcok.a0
  refine enter (vs := [.pointer (some ⟨p, 0, none⟩), .agg (cmdC c).toArray]) Try.func50 rfl Try.ntmps50 rfl hA ?_
  refine c_fact (p := DqSh d) (fun w h => dq_sh (F := []) h) ?_
  rintro ⟨⟨hc1, hc2⟩, hgA, htv⟩
  refine c_hp (hp' := [blk p [.int .i64 4, .int .i64 d.step, .slice d.A d.xs.length d.c, ptV d.pv] 98, row 27 8 (.slice d.A d.xs.length d.c) d.xs.length (d.xs.flatMap lstCells), starL (d.xs.map tblA), ptA d.pv]) (fun w h => h) ?_
  simp only [cmdC]
  (repeat (first | (refine i_dst ?_; (first | (refine i_move ?_; refine l_q rfl rfl rfl (q_move rfl) ?_) | (refine i_assign ?_; refine l_q rfl rfl rfl (q_assign rfl) ?_) | (refine i_load ?_; refine l_q rfl rfl rfl (by ((exact q_ld1 tab rfl rfl rfl (by first | ((repeat (first | exact List.Mem.head _ | apply List.Mem.tail)); done) | fail) (by (rfl))))) ?_) | (refine i_ix ?_; refine l_q rfl rfl rfl (by (exact q_indexAddrA1 tab rfl rfl rfl rfl (by omega))) ?_) | (refine i_box ?_; (refine l_boxA rfl rfl (fun _ => ?_))) | (refine l_q rfl rfl rfl (by ((apply iq_fld; (exact q_fieldAddr tab rfl rfl rfl rfl rfl rfl rfl)))) ?_))) | refine d_seq ?_ | refine c_region ?_ | refine l_nil ?_ | (refine i_q ?_; (refine d_then ?_))))
  rename_i b3
  (refine l_call0 rfl rfl Try.func60 rfl (by decide) (fun w' h => dlist_spec (Ro.empty (h.mem (X := blk p [.int .i64 4, .int .i64 d.step, .slice d.A d.xs.length d.c, ptV d.pv] 98) (by first | ((repeat (first | exact List.Mem.head _ | apply List.Mem.tail)); done) | fail))) hgA c.a0 ha0) (fun v B hv => ?_); obtain ⟨rfl, rfl⟩ := hv)
  by_cases hi : c.a0 < d.xs.length
  · rw [if_pos hi]
    obtain ⟨x, hx⟩ : ∃ x, d.xs[c.a0]? = some x := ⟨_, List.getElem?_eq_getElem hi⟩
    have hxo := hoff x (List.mem_of_getElem? hx)
    have hxl := hlists x (List.mem_of_getElem? hx)
    obtain ⟨g, hg⟩ := hgA (by omega)
    have hnn : (adr d.A (c.a0 * 8)).isNone = false := by rw [hg, adr_some]; rfl
    (repeat (first | (refine i_dst ?_; (first | (refine i_move ?_; refine l_q rfl rfl rfl (q_move rfl) ?_) | (refine i_assign ?_; refine l_q rfl rfl rfl (q_assign rfl) ?_) | (refine i_load ?_; refine l_q rfl rfl rfl (by (first | (exact q_ld1 tab rfl rfl rfl (by first | ((repeat (first | exact List.Mem.head _ | apply List.Mem.tail)); done) | fail) (by (rfl))) | (exact q_ldFN tab rfl rfl rfl rfl (by ((exact fun w h => row_src (h.mem (by first | ((repeat (first | exact List.Mem.head _ | apply List.Mem.tail)); done) | fail))))) (by exact fun _ => rfl) (by assumption) (by exact rfl) (by exact List.cons_ne_nil _ _)))) ?_) | (refine i_bin ?_; refine l_q rfl rfl rfl (by (first | exact q_gtr rfl rfl | exact q_eqnil tab rfl rfl rfl)) ?_) | (refine i_ix ?_; refine l_q rfl rfl rfl (by (exact q_indexAddrA1 tab rfl rfl rfl rfl (by omega))) ?_) | (refine l_q rfl rfl rfl (by (first | (apply iq_fld; (exact q_fieldAddr tab rfl rfl rfl rfl rfl rfl rfl)) | (apply iq_nck; ((exact q_nckS rfl (by ((exact fun w h => row_src (h.mem (by first | ((repeat (first | exact List.Mem.head _ | apply List.Mem.tail)); done) | fail))))) (by (omega))))) | exact q_pick_f rfl rfl)) ?_))) | refine d_seq ?_ | refine c_region ?_ | refine l_nil ?_ | refine c_block ?_ | (refine i_q ?_; (refine d_then ?_)) | (refine i_guard ?_; (first | refine l_gt rfl rfl rfl ?_ | refine l_gtd rfl rfl rfl (by (first | assumption | exact decide_eq_true (by omega))) ?_)) | (refine i_cond ?_; (refine c_cf rfl (by (exact decide_eq_false (by omega))) ?_))))
    (refine l_call0 rfl rfl Try.func62 rfl (by decide) (fun w' h => dready_spec (l := x.l) (tbl_in (x := x) (Ro.star (Ro.empty (h.mem (X := starL (d.xs.map tblA)) (by first | ((repeat (first | exact List.Mem.head _ | apply List.Mem.tail)); done) | fail))) (i := c.a0) (by simp [hx])) hxl) hxl.small) (fun v B hv => ?_); obtain ⟨b, rfl, rfl, hb⟩ := hv)
    cases b with
    | false =>
      (repeat (first | (refine i_dst ?_; (first | (refine i_assign ?_; refine l_q rfl rfl rfl (q_assign rfl) ?_) | refine l_q rfl rfl rfl (by (first | exact q_not rfl | exact q_pick_t rfl rfl)) ?_)) | refine d_seq ?_ | refine c_region ?_ | refine l_nil ?_ | (refine i_q ?_; (first | refine d_then ?_ | refine d_then_ret ?_ | refine t_block_ret ?_)) | refine c_ret ?_ | (refine i_guard ?_; (refine l_gt rfl rfl rfl ?_)) | (refine i_cond ?_; (refine c_ct rfl (by (rfl)) ?_))))
      exact t_hp (hp' := []) (fun w h => h.psub (by first | ((repeat (first | exact PSub.nil | exact Ext.head | apply Ext.tail | apply PSub.cons)); done) | fail)) (t_ret2 Try.results50 rfl rfl (.inl ⟨_, _, rfl, by omega⟩))
    | true =>
      have hpos := hb rfl
      (repeat (first | (refine i_dst ?_; (first | (refine i_move ?_; refine l_q rfl rfl rfl (q_move rfl) ?_) | (refine i_assign ?_; refine l_q rfl rfl rfl (q_assign rfl) ?_) | (refine i_load ?_; refine l_q rfl rfl rfl (by ((exact q_ld1 tab rfl rfl rfl (by first | ((repeat (first | exact List.Mem.head _ | apply List.Mem.tail)); done) | fail) (by (rfl))))) ?_) | (refine i_bin ?_; refine l_q rfl rfl rfl (by (exact q_eql rfl rfl)) ?_) | (refine i_ix ?_; refine l_q rfl rfl rfl (by (exact q_indexAddrA1 tab rfl rfl rfl rfl (by omega))) ?_) | (refine l_q rfl rfl rfl (by (first | (apply iq_fld; (first | exact q_fieldAddr tab rfl rfl rfl rfl rfl rfl rfl | (exact q_fldS tab rfl rfl rfl rfl rfl rfl rfl (by ((exact fun w h => row_src (h.mem (by first | ((repeat (first | exact List.Mem.head _ | apply List.Mem.tail)); done) | fail))))) (by (omega))))) | (apply iq_nck; ((exact q_nckS rfl (by ((exact fun w h => row_src (h.mem (by first | ((repeat (first | exact List.Mem.head _ | apply List.Mem.tail)); done) | fail))))) (by (omega))))) | exact q_not rfl | exact q_pick_t rfl rfl)) ?_))) | refine d_seq ?_ | refine c_region ?_ | refine l_nil ?_ | (refine i_q ?_; (refine d_then ?_)) | (refine i_guard ?_; (refine l_gt rfl rfl rfl ?_)) | (refine i_cond ?_; (refine c_cf rfl (by (first | rfl | exact decide_eq_false (by omega))) ?_))))
      rw [hg]
      simp only [adr_some]
      refine l_ex (fun w h => row_open (by omega) (h.ext (X := row 27 8 (.slice (some ⟨g, 0, none⟩) d.xs.length d.c) d.xs.length (d.xs.flatMap lstCells)) (by first | ((repeat (first | exact Ext.head | apply Ext.tail)); done) | fail))) ?_
      rintro ⟨g', junk⟩ ⟨hgg, hg1, hg2, hg3⟩
      injection hgg with hgg
      injection hgg with hgg
      subst hgg
      dsimp only at hg3 ⊢
      (repeat (first | refine d_seq ?_ | refine l_nil ?_ | (refine i_q ?_; (first | refine d_then ?_ | refine t_block ?_)) | (refine i_store ?_; ((refine l_setI tab rfl rfl rfl rfl (by first | ((repeat (first | exact Upd.head | apply Upd.tail)); done) | fail) (by (omega)) ?_)))))
      obtain ⟨xs2, hxs2⟩ : ∃ xs2, xs2 = d.xs.set c.a0 (stX x) := ⟨_, rfl⟩
      have hlen2 : xs2.length = d.xs.length := by rw [hxs2, List.length_set]
      have hok2 : DqOk ⟨d.step, some ⟨g, 0, none⟩, d.c, xs2, d.pv⟩ := by rw [hxs2]; exact stX_ok hok0 hx
      refine c_hp (hp' := [blk b3 [.int .u8 c.code, .int .u8 c.a0, .int .u8 c.a1, .int .u8 c.a2, .int .u8 c.a3, .int .u8 c.a4, .int .u32 c.w, .slice none 0 0] 59, blk p [.int .i64 4, .int .i64 d.step, .slice (some ⟨g, 0, none⟩) xs2.length d.c, ptV d.pv] 98, row 27 8 (.slice (some ⟨g, 0, none⟩) xs2.length d.c) xs2.length (xs2.flatMap lstCells), starL (xs2.map tblA), ptA d.pv]) (fun w h => ?_) ?_
      · have e1 : ((d.xs.flatMap lstCells ++ junk).set (0 + (c.a0 * 8 + 7)) (.bool true)) = xs2.flatMap lstCells ++ junk := by
          rw [Nat.zero_add, hxs2]
          exact cells_set hx (by omega) (by rfl)
        rw [e1] at h
        have h1 := h.psub (hp' := blk p [.int .i64 4, .int .i64 d.step, .slice (some ⟨g, 0, none⟩) d.xs.length d.c, ptV d.pv] 98 :: blk g (xs2.flatMap lstCells ++ junk) 27 :: starL (d.xs.map tblA) :: ptA d.pv :: [blk b3 [.int .u8 c.code, .int .u8 c.a0, .int .u8 c.a1, .int .u8 c.a2, .int .u8 c.a3, .int .u8 c.a4, .int .u32 c.w, .slice none 0 0] 59]) (by first | ((repeat (first | exact PSub.nil | exact Ext.head | apply Ext.tail | apply PSub.cons)); done) | fail)
        have e2 : d.xs.map tblA = xs2.map tblA := by
          rw [hxs2, List.map_set, stX_tbl]
          exact (set_same (by rw [List.getElem?_map, hx]; rfl)).symm
        rw [e2] at h1
        have h2 := dq_mk hlen2 hg1 hg2 (by rw [List.length_append, length_flat len_lst, hlen2]; rw [List.length_append, length_flat len_lst] at hg3; exact hg3) h1
        exact h2.psub (by first | ((repeat (first | exact PSub.nil | exact Ext.head | apply Ext.tail | apply PSub.cons)); done) | fail)
      rw [← hlen2] at hi
      have hok3 : ∀ l ∈ xs2.map (·.l), LOk l := fun l hl => by
        obtain ⟨y, hy, rfl⟩ := List.mem_map.1 hl
        exact hok2.lists y hy
      (refine a_begin mixed _ 12 rfl (fun w h => h) ?_)
      ((refine a_q 0 rfl rfl rfl rfl rfl (by decide +kernel) (q_move rfl) ?_; refine a_q 2 rfl rfl rfl rfl rfl (by decide +kernel) (by ((apply iq_fld; (exact q_fieldAddr tab rfl rfl rfl rfl rfl rfl rfl)))) ?_; refine a_q 3 rfl rfl rfl rfl rfl (by decide +kernel) (by (exact q_indexAddrA1 tab rfl rfl rfl rfl (by omega))) ?_; ((refine a_q 4 rfl rfl rfl rfl rfl (by decide +kernel) (by ((exact q_ld1 tab rfl rfl rfl (by first | ((repeat (first | exact List.Mem.head _ | apply List.Mem.tail)); done) | fail) (by (rfl))))) ?_))))
      (refine a_e 1 rfl (by decide +kernel) rfl (fun K hK => e_call0 rfl rfl Try.func16 rfl (by decide) (fun w' h => dlists_spec (Ro.empty (h.mem (X := blk p [.int .i64 4, .int .i64 d.step, .slice (some ⟨g, 0, none⟩) xs2.length d.c, ptV d.pv] 98) (by first | ((repeat (first | exact List.Mem.head _ | apply List.Mem.tail)); done) | fail))) (dq_in rfl (Ro.empty (h.mem (X := row 27 8 (.slice (some ⟨g, 0, none⟩) xs2.length d.c) xs2.length (xs2.flatMap lstCells)) (by first | ((repeat (first | exact List.Mem.head _ | apply List.Mem.tail)); done) | fail))) (Ro.empty (h.mem (X := starL (xs2.map tblA)) (by first | ((repeat (first | exact List.Mem.head _ | apply List.Mem.tail)); done) | fail))) hok2.lists) (by omega) hok3) (fun v B hv => ?_)); obtain ⟨A1, c1, ys, rfl, rfl, hys, hy1, hy2, hy3⟩ := hv; refine hK _ _ (fun w h => h.subl (by first | ((repeat (first | exact SubL.nil | apply SubL.keep | apply SubL.skip)); done) | fail)) ?_; clear hK)
      have hyl : ys.length = xs2.length := by
        have := congrArg List.length hys
        rw [firstsL_len, List.length_map, List.length_map] at this
        exact this
      obtain ⟨ga, rfl⟩ := hy3 (by omega)
      obtain ⟨y, hy⟩ : ∃ y, ys[c.a0]? = some y := ⟨_, List.getElem?_eq_getElem (by omega)⟩
      refine a_q 5 rfl rfl rfl rfl rfl (by decide +kernel) (q_indexAddr tab rfl rfl rfl rfl (by omega)) ?_
      refine a_q 6 rfl rfl rfl rfl rfl (by decide +kernel) (q_fieldAddr tab rfl rfl rfl rfl rfl rfl rfl) ?_
      refine a_e 7 rfl (by decide +kernel) rfl (fun K hK => Qt.to (q_load tab (v := .int .i64 y.l.first) rfl rfl rfl (fun w h => ?_)) rfl rfl (hK _ _ (fun w h => h.subl (by first | ((repeat (first | exact SubL.nil | apply SubL.keep | apply SubL.skip)); done) | fail)) ?_))
      · have h1 := row_cells (h.mem (X := row 27 8 (.slice (some ⟨ga, 0, none⟩) ys.length c1) ys.length (ys.flatMap lstCells)) (by first | ((repeat (first | exact List.Mem.head _ | apply List.Mem.tail)); done) | fail)) rfl (c.a0 * 8 + 0) (.int .i64 y.l.first) (flat_get len_lst hy (by rfl))
        simpa using h1
      clear hK
      refine a_q 8 rfl rfl rfl rfl rfl (by decide +kernel) (q_conv tab rfl rfl rfl (by rfl)) ?_
      (refine a_e 9 rfl (by decide +kernel) rfl (fun K hK => e_bldS tab rfl rfl rfl rfl (by first | exact CellsOf.agg | exact CellsOf.one rfl) (by first | ((repeat (first | exact RepR.zero | exact AppR.nil | apply RepR.succ | apply AppR.cons)); done) | fail) (by first | ((repeat (first | exact FillR.nil | exact LSets.nil | exact LSet.zero | exact CellsOf.agg | exact rfl | exact CellsOf.one rfl | apply FillR.cons | apply LSets.cons | apply LSet.succ)); done) | fail) (fun w => by kernel_rfl) (fun gb => hK _ _ (fun w h => h.subl (by first | ((repeat (first | exact SubL.nil | apply SubL.keep | apply SubL.skip)); done) | fail)) ?_)); clear hK)
      refine a_q 10 rfl rfl rfl rfl rfl (by decide +kernel) (q_assign rfl) ?_
      refine a_q 11 rfl rfl rfl rfl rfl (by decide +kernel) (q_assign rfl) ?_
      refine a_done (by decide +kernel) ?_
      (repeat (first | (refine i_q ?_; (refine d_then ?_)) | refine c_ret ?_))
      exact t_hp (hp' := dqL p ⟨d.step, some ⟨g, 0, none⟩, d.c, xs2, d.pv⟩) (fun w h => h.psub (by first | ((repeat (first | exact PSub.nil | exact Ext.head | apply Ext.tail | apply PSub.cons)); done) | fail)) (t_ret2 Try.results50 rfl rfl (.inr ⟨_, _, rfl, rfl, hok2, fun _ => by rw [hxs2]; exact off_set hoff hxo, ⟨by omega, by omega, by omega, fun _ => ⟨x.l, by rw [lsOf, List.getElem?_map, hx]; rfl, hpos, by rw [hxs2]; exact ls_set _ _ _⟩, by omega⟩⟩))
  · rw [if_neg hi]
    (repeat (first | (refine i_dst ?_; (first | (refine i_move ?_; refine l_q rfl rfl rfl (q_move rfl) ?_) | (refine i_assign ?_; refine l_q rfl rfl rfl (q_assign rfl) ?_) | (refine i_bin ?_; refine l_q rfl rfl rfl (by (exact q_eqnil tab rfl rfl rfl)) ?_) | refine l_q rfl rfl rfl (by (exact q_pick_t rfl rfl)) ?_)) | refine d_seq ?_ | refine c_region ?_ | refine l_nil ?_ | refine c_block ?_ | (refine i_q ?_; (first | refine d_then ?_ | refine d_then_ret ?_ | refine t_block_ret ?_)) | refine c_ret ?_ | (refine i_guard ?_; (refine l_gf rfl rfl rfl rfl rfl rfl ?_)) | (refine i_cond ?_; (refine c_ct rfl (by (rfl)) ?_))))
    exact t_hp (hp' := []) (fun w h => h.psub (by first | ((repeat (first | exact PSub.nil | exact Ext.head | apply Ext.tail | apply PSub.cons)); done) | fail)) (t_ret2 Try.results50 rfl rfl (.inl ⟨_, _, rfl, by omega⟩))
end Go.Proofs.Ytboccjdncdaakaa

/-
  Part 16 of the proof of QJ: the texts FC FD.
-/
import Derived.Test.YtboccjdncdaakaaK15

/-
  Layer 11: entries and point, walked.
-/

set_option linter.unusedVariables false
set_option maxRecDepth 100000
namespace Go.Proofs.Ytboccjdncdaakaa
open Go.RowKit
attribute [local irreducible] TL TC TQ TK TO Qt TA
theorem flat_same {xs : List LstV} {i : Nat} {x x' : LstV} (hx : xs[i]? = some x) (h : lstCells x' = lstCells x) : (xs.set i x').flatMap lstCells = xs.flatMap lstCells := by
  rw [List.flatMap_def, List.flatMap_def, List.map_set, h]
  congr 1
  refine List.ext_getElem? fun j => ?_
  by_cases hj : i = j
  · subst hj
    rw [List.getElem?_set_self (by rw [List.length_map]; exact (List.getElem?_eq_some_iff.1 hx).1), List.getElem?_map, hx]
    rfl
  · rw [List.getElem?_set_ne hj]
theorem set_same {α : Type} {xs : List α} {i : Nat} {x : α} (hx : xs[i]? = some x) : xs.set i x = xs := by
  refine List.ext_getElem? fun j => ?_
  by_cases hj : i = j
  · subst hj
    rw [List.getElem?_set_self (List.getElem?_eq_some_iff.1 hx).1, hx]
  · rw [List.getElem?_set_ne hj]
theorem len_enC (e : EntryI) : (enC e).length = 3 := rfl
def e0I : EntryI := ⟨0, 0, 0⟩
def enX (x : LstV) (k m gm : Nat) : LstV := ⟨⟨x.l.first, x.l.tabs.set k (List.replicate m e0I), x.l.stim, x.l.ev, x.l.pre, x.l.pri, x.l.on, x.l.ch⟩, x.tv, x.tvs.set k (.slice (some ⟨gm, 0, none⟩) m m)⟩
theorem needs_rep (m : Nat) : needsM (List.replicate m e0I) = 0 := by
  induction m with
  | zero => rfl
  | succ m ih => rw [List.replicate_succ', needsM_snoc, ih]; rfl
theorem enX_ok {d : DqV} (hok : DqOk d) {i k m gm c : Nat} {x : LstV} {A : Option Addr} (hx : d.xs[i]? = some x) (hm : m ≤ 7) (h0 : x.l.tabs[k]? = some []) : DqOk ⟨3, A, c, d.xs.set i (enX x k m gm), d.pv⟩ := by
  have hxo := hok.lists x (List.mem_of_getElem? hx)
  have hi := (List.getElem?_eq_some_iff.1 hx).1
  refine dqok_set hok hx ⟨hxo.first, hxo.ev, hxo.pre, hxo.pri, ?_, fun t h => ?_⟩ ?_ (by omega) (by omega) (ptr_keep hok.ptr hi fun y hy e => ?_)
  · show (x.l.tabs.set _ _).length ≤ 16
    rw [List.length_set]
    exact hxo.tabs
  · rcases List.mem_or_eq_of_mem_set h with h | rfl
    · exact hxo.tab t h
    · refine ⟨fun e he => ?_, by rw [List.length_replicate]; exact hm, by rw [needs_rep]; omega⟩
      rw [List.eq_of_mem_replicate he]
      exact ⟨by decide, by decide, by decide⟩
  · show _ + (x.l.tabs.set _ _).length ≤ _
    rw [List.length_set]
    have := hok.tot
    omega
  · obtain ⟨x1, t, h1, h2, h3⟩ := hok.ptr y hy
    rw [e, hx] at h1
    injection h1 with h1
    subst h1
    by_cases hk : k = y.2.2.1
    · subst hk
      rw [h0] at h2
      injection h2 with h2
      subst h2
      cases h3
    · exact ⟨t, by show (x.l.tabs.set _ _)[_]? = _; rw [List.getElem?_set_ne hk]; exact h2, h3⟩
section
variable {S : Nat → Prop} {w0 w : World}
theorem enX_st {p i k m gm gt c ct st : Nat} {A : Option Addr} {x : LstV} {xs : List LstV} {junk : List Value} {pv : Option (Nat × Nat × Nat × Nat)} (hx : xs[i]? = some x) (hk : k < x.tvs.length) (hxl : x.tvs.length = x.l.tabs.length) (htv : x.tv = .slice (some ⟨gt, 0, none⟩) x.tvs.length ct) (hc : x.tvs.length ≤ ct) (hm : ct ≤ maxLen) (hl : (x.tvs ++ junk).length = ct * 1) (hmm : m ≤ maxLen)
    (h : St S w0 [blk gt (x.tvs.set k (.slice (some ⟨gm, 0, none⟩) m m) ++ junk) 37, blk gm ((List.replicate m e0I).flatMap enC) 44, starL (List.zipWith entA x.tvs x.l.tabs), starL ((xs.map tblA).set i emp), blk p [.int .i64 4, .int .i64 st, .slice A xs.length c, ptV pv] 98, row 27 8 (.slice A xs.length c) xs.length (xs.flatMap lstCells), ptA pv] w) : St S w0 (dqL p ⟨st, A, c, xs.set i (enX x k m gm), pv⟩) w := by
  have hi := (List.getElem?_eq_some_iff.1 hx).1
  have hle : ((List.replicate m e0I).flatMap enC).length = m * 3 := by rw [length_flat len_enC, List.length_replicate]
  have h1 := row_shut (n := x.tvs.length) (c := ct) hc hm (by rw [List.length_set, Nat.mul_one]) (by rw [List.length_append, List.length_set]; rw [List.length_append] at hl; exact hl) h
  have h2 := (h1.perm (.swap _ _ _)).see (i := 0) (Y := entA (.slice (some ⟨gm, 0, none⟩) m m) (List.replicate m e0I)) rfl (fun h => by
    have := row_of_blk h 3 m m (Nat.le_refl _) hmm hle _ (List.take_of_length_le (by omega))
    unfold entA
    rw [List.length_replicate]
    exact this) (fun b hb => by unfold entA at hb; exact row_blkS hb)
  have h3 := h2.psub (hp' := entA (.slice (some ⟨gm, 0, none⟩) m m) (List.replicate m e0I) :: starL (List.zipWith entA x.tvs x.l.tabs) :: [row 37 1 (.slice (some ⟨gt, 0, none⟩) x.tvs.length ct) x.tvs.length (x.tvs.set k (.slice (some ⟨gm, 0, none⟩) m m)), starL ((xs.map tblA).set i emp), blk p [.int .i64 4, .int .i64 st, .slice A xs.length c, ptV pv] 98, row 27 8 (.slice A xs.length c) xs.length (xs.flatMap lstCells), ptA pv]) (by first | ((repeat (first | exact PSub.nil | exact Ext.head | apply Ext.tail | apply PSub.cons)); done) | fail)
  have h4 := (ent_repl hk hxl h3).perm (.swap _ _ _)
  have e1 : (enX x k m gm).tvs.length = x.tvs.length := List.length_set ..
  have h5 := tbl_unfocus (x := enX x k m gm) hi (by rw [e1, hxl]; exact (List.length_set ..).symm) (by rw [e1]; show St S w0 (row 37 1 x.tv _ _ :: _) w; rw [htv]; exact h4)
  have h6 := h5.psub (hp' := [blk p [.int .i64 4, .int .i64 st, .slice A xs.length c, ptV pv] 98, row 27 8 (.slice A xs.length c) xs.length (xs.flatMap lstCells), starL ((xs.set i (enX x k m gm)).map tblA), ptA pv]) (by first | ((repeat (first | exact PSub.nil | exact Ext.head | apply Ext.tail | apply PSub.cons)); done) | fail)
  unfold dqL
  dsimp only
  rw [List.length_set, flat_same hx (by rfl)]
  exact h6
end
attribute [local irreducible] blk row bytesA starL memA segA roB otA entA tblA
set_option maxHeartbeats 8000000 in
theorem dentries_spec {p : Nat} {d : DqV} {w : World} (hA : Hold (dqL p d) w) (hok : DqOk d) (hoff : Off d) (c : CmdV) (hc : c.code = 21) (hcok : c.Ok) :
    Calls Try.prog 46 #[.pointer (some ⟨p, 0, none⟩), .agg (cmdC c).toArray] w (Ret w (dqL p d) (DoOut p c d)) := by
  have hmx : maxLen = 2 ^ 63 - 1 := rfl
  have hok0 := hok
  obtain ⟨hlen, hst, htot, hlists, hfree, hptr⟩ := hok
  have ha0 := hcok.a0
  have ha1 := hcok.a1
  have ha2 := hcok.a2
  refine enter (vs := [.pointer (some ⟨p, 0, none⟩), .agg (cmdC c).toArray]) Try.func46 rfl Try.ntmps46 rfl hA ?_
  refine c_fact (p := DqSh d) (fun w h => dq_sh (F := []) h) ?_
  rintro ⟨⟨hc1, hc2⟩, hgA, htv⟩
  refine c_hp (hp' := [blk p [.int .i64 4, .int .i64 d.step, .slice d.A d.xs.length d.c, ptV d.pv] 98, row 27 8 (.slice d.A d.xs.length d.c) d.xs.length (d.xs.flatMap lstCells), starL (d.xs.map tblA), ptA d.pv]) (fun w h => h) ?_
  simp only [cmdC]
  (repeat (first | (refine i_dst ?_; (first | (refine i_move ?_; refine l_q rfl rfl rfl (q_move rfl) ?_) | (refine i_assign ?_; refine l_q rfl rfl rfl (q_assign rfl) ?_) | (refine i_load ?_; refine l_q rfl rfl rfl (by ((exact q_ld1 tab rfl rfl rfl (by first | ((repeat (first | exact List.Mem.head _ | apply List.Mem.tail)); done) | fail) (by (rfl))))) ?_) | (refine i_ix ?_; refine l_q rfl rfl rfl (by (exact q_indexAddrA1 tab rfl rfl rfl rfl (by omega))) ?_) | (refine i_box ?_; (refine l_boxA rfl rfl (fun _ => ?_))) | (refine l_q rfl rfl rfl (by ((apply iq_fld; (exact q_fieldAddr tab rfl rfl rfl rfl rfl rfl rfl)))) ?_))) | refine d_seq ?_ | refine c_region ?_ | refine l_nil ?_ | (refine i_q ?_; (refine d_then ?_))))
  rename_i b3
  (refine l_call0 rfl rfl Try.func61 rfl (by decide) (fun w' h => dtable_spec (Ro.empty (h.mem (X := blk p [.int .i64 4, .int .i64 d.step, .slice d.A d.xs.length d.c, ptV d.pv] 98) (by first | ((repeat (first | exact List.Mem.head _ | apply List.Mem.tail)); done) | fail))) (Ro.empty (h.mem (X := row 27 8 (.slice d.A d.xs.length d.c) d.xs.length (d.xs.flatMap lstCells)) (by first | ((repeat (first | exact List.Mem.head _ | apply List.Mem.tail)); done) | fail))) rfl hgA htv c.a0 c.a1 ha0 ha1) (fun v B hv => ?_); obtain ⟨⟨rfl, hno⟩ | ⟨x, At, ct, hx, hk, hx1, rfl⟩, rfl⟩ := hv)
  · by_cases hstep : d.step = 2 ∨ d.step = 3
    · rcases hstep with hstep | hstep
      all_goals
        (repeat (first | (refine i_dst ?_; (first | (refine i_move ?_; refine l_q rfl rfl rfl (q_move rfl) ?_) | (refine i_assign ?_; refine l_q rfl rfl rfl (q_assign rfl) ?_) | (refine i_load ?_; refine l_q rfl rfl rfl (by ((exact q_ld1 tab rfl rfl rfl (by first | ((repeat (first | exact List.Mem.head _ | apply List.Mem.tail)); done) | fail) (by (rfl))))) ?_) | (refine i_bin ?_; refine l_q rfl rfl rfl (by (first | exact q_neq rfl rfl | exact q_eqnil tab rfl rfl rfl)) ?_) | (refine l_q rfl rfl rfl (by (first | (apply iq_fld; (exact q_fieldAddr tab rfl rfl rfl rfl rfl rfl rfl)) | (apply iq_nck; (exact q_nilck rfl)) | exact q_pick_t rfl rfl | exact q_pick_f rfl rfl)) ?_))) | refine d_seq ?_ | refine c_region ?_ | refine l_nil ?_ | refine c_block ?_ | (refine i_q ?_; (first | refine d_then ?_ | refine d_then_ret ?_ | refine t_block_ret ?_)) | refine c_ret ?_ | (refine i_guard ?_; (first | refine l_gt rfl rfl rfl ?_ | refine l_gf rfl rfl rfl rfl rfl rfl ?_ | refine l_gtd rfl rfl rfl (by (exact decide_eq_true (by omega))) ?_ | refine l_gfd rfl rfl rfl (by (exact decide_eq_false (by omega))) rfl rfl ?_)) | (refine i_cond ?_; (first | refine c_ct rfl (by (rfl)) ?_ | refine c_cf rfl (by (first | rfl | exact decide_eq_false (by omega))) ?_))))
        exact t_hp (hp' := []) (fun w h => h.psub (by first | ((repeat (first | exact PSub.nil | exact Ext.head | apply Ext.tail | apply PSub.cons)); done) | fail)) (t_ret2 Try.results46 rfl rfl (.inl ⟨_, _, rfl, by omega⟩))
    · (repeat (first | (refine i_dst ?_; (first | (refine i_move ?_; refine l_q rfl rfl rfl (q_move rfl) ?_) | (refine i_assign ?_; refine l_q rfl rfl rfl (q_assign rfl) ?_) | (refine i_load ?_; refine l_q rfl rfl rfl (by ((exact q_ld1 tab rfl rfl rfl (by first | ((repeat (first | exact List.Mem.head _ | apply List.Mem.tail)); done) | fail) (by (rfl))))) ?_) | (refine i_bin ?_; refine l_q rfl rfl rfl (by (exact q_neq rfl rfl)) ?_) | (refine l_q rfl rfl rfl (by (first | (apply iq_fld; (exact q_fieldAddr tab rfl rfl rfl rfl rfl rfl rfl)) | (apply iq_nck; (exact q_nilck rfl)) | exact q_pick_t rfl rfl)) ?_))) | refine d_seq ?_ | refine c_region ?_ | refine l_nil ?_ | refine c_block ?_ | (refine i_q ?_; (first | refine d_then ?_ | refine d_then_ret ?_ | refine t_block_ret ?_)) | refine c_ret ?_ | (refine i_guard ?_; (first | refine l_gt rfl rfl rfl ?_ | refine l_gtd rfl rfl rfl (by (exact decide_eq_true (by omega))) ?_)) | (refine i_cond ?_; (refine c_ct rfl (by (exact decide_eq_true (by omega))) ?_))))
      exact t_hp (hp' := []) (fun w h => h.psub (by first | ((repeat (first | exact PSub.nil | exact Ext.head | apply Ext.tail | apply PSub.cons)); done) | fail)) (t_ret2 Try.results46 rfl rfl (.inl ⟨_, _, rfl, by omega⟩))
  · by_cases hstep : d.step = 2 ∨ d.step = 3
    · obtain ⟨hxl, ⟨At', ct', hx1', hx2, hx3, hx4⟩, hxt⟩ := htv x (List.mem_of_getElem? hx)
      rw [hx1] at hx1'
      injection hx1' with e1 e2 e3
      subst e1 e3
      obtain ⟨v, hv⟩ : ∃ v, x.tvs[c.a1]? = some v := ⟨_, List.getElem?_eq_getElem hk⟩
      obtain ⟨t, ht⟩ : ∃ t, x.l.tabs[c.a1]? = some t := ⟨_, List.getElem?_eq_getElem (by omega)⟩
      obtain ⟨Ae, ce, rfl, he1, he2, he3⟩ := hxt c.a1 v t hv ht
      obtain ⟨gt0, hgt⟩ := hx4 (by omega)
      have hnn : (adr At c.a1).isNone = false := by rw [hgt, adr_some]; rfl
      refine l_hp (fun w h => tbl_focus hx (h.ext (X := starL (d.xs.map tblA)) (by first | ((repeat (first | exact Ext.head | apply Ext.tail)); done) | fail))) ?_
      rw [hx1]
      by_cases h0 : t.length = 0
      · by_cases h7 : c.a2 ≤ 7
        · rcases hstep with hstep | hstep
          all_goals
            (repeat (first | (refine i_dst ?_; (first | (refine i_move ?_; refine l_q rfl rfl rfl (q_move rfl) ?_) | (refine i_assign ?_; refine l_q rfl rfl rfl (q_assign rfl) ?_) | (refine i_load ?_; refine l_q rfl rfl rfl (by (first | (exact q_ld1 tab rfl rfl rfl (by first | ((repeat (first | exact List.Mem.head _ | apply List.Mem.tail)); done) | fail) (by (rfl))) | (exact q_ldS tab rfl rfl rfl (by ((exact fun w h => row_src (h.mem (by first | ((repeat (first | exact List.Mem.head _ | apply List.Mem.tail)); done) | fail))))) (by (assumption))))) ?_) | (refine i_bin ?_; refine l_q rfl rfl rfl (by (first | exact q_neq rfl rfl | exact q_gtr rfl rfl | exact q_eqnil tab rfl rfl rfl)) ?_) | (refine i_blt ?_; refine l_q rfl rfl rfl (by (exact q_len tab rfl rfl)) ?_) | (refine i_ix ?_; refine l_q rfl rfl rfl (by (exact q_indexAddrA1 tab rfl rfl rfl rfl (by omega))) ?_) | (refine l_q rfl rfl rfl (by (first | (apply iq_fld; (exact q_fieldAddr tab rfl rfl rfl rfl rfl rfl rfl)) | (apply iq_nck; (first | exact q_nilck rfl | (exact q_nckS rfl (by ((exact fun w h => row_src (h.mem (by first | ((repeat (first | exact List.Mem.head _ | apply List.Mem.tail)); done) | fail))))) (by (omega))))) | exact q_pick_t rfl rfl | exact q_pick_f rfl rfl)) ?_))) | refine d_seq ?_ | refine c_region ?_ | refine l_nil ?_ | refine c_block ?_ | (refine i_q ?_; (first | refine d_then ?_ | refine t_block ?_)) | refine c_skip ?_ | (refine i_guard ?_; (first | refine l_gt rfl rfl rfl ?_ | refine l_gf rfl rfl rfl rfl rfl rfl ?_ | refine l_gtd rfl rfl rfl (by (exact decide_eq_true (by omega))) ?_ | refine l_gfd rfl rfl rfl (by (exact decide_eq_false (by omega))) rfl rfl ?_)) | (refine i_cond ?_; (refine c_cf rfl (by (first | rfl | assumption | exact decide_eq_false (by omega))) ?_))))
            refine l_make rfl rfl rfl (fun w => make_ent c.a2 h7 w) (fun gm => ?_)
            (repeat ((refine i_dst ?_; ((refine l_q rfl rfl rfl (by ((apply iq_nck; ((exact q_nckS rfl (by ((exact fun w h => row_src (h.mem (by first | ((repeat (first | exact List.Mem.head _ | apply List.Mem.tail)); done) | fail))))) (by (omega))))))) ?_)))))
            rw [hgt]
            simp only [adr_some]
            refine l_ex (fun w h => row_open (by omega) (h.ext (X := row 37 1 (.slice (some ⟨gt0, 0, none⟩) x.tvs.length ct) x.tvs.length x.tvs) (by first | ((repeat (first | exact Ext.head | apply Ext.tail)); done) | fail))) ?_
            rintro ⟨gt, junk⟩ ⟨hgg, hg1, hg2, hg3⟩
            injection hgg with hgg
            injection hgg with hgg
            subst hgg
            dsimp only at hg3 ⊢
            (repeat (first | (refine i_dst ?_; (first | (refine i_assign ?_; refine l_q rfl rfl rfl (q_assign rfl) ?_) | (refine l_q rfl rfl rfl (by (first | (apply iq_fld; (exact q_fieldAddr tab rfl rfl rfl rfl rfl rfl rfl)) | (apply iq_nck; (exact q_nilck rfl)))) ?_))) | refine d_seq ?_ | refine c_region ?_ | refine l_nil ?_ | (refine i_q ?_; (refine d_then ?_)) | refine c_ret ?_ | (refine i_store ?_; (first | (refine l_set tab rfl rfl rfl rfl (by first | ((repeat (first | exact Upd.head | apply Upd.tail)); done) | fail) (by first | ((repeat (first | exact LSet.zero | apply LSet.succ)); done) | fail) ?_) | (refine l_setI tab rfl rfl rfl rfl (by first | ((repeat (first | exact Upd.head | apply Upd.tail)); done) | fail) (by (omega)) ?_)))))
            refine t_hp (hp' := dqL p ⟨3, d.A, d.c, d.xs.set c.a0 (enX x c.a1 c.a2 gm), d.pv⟩) (fun w h => ?_) (t_ret2 Try.results46 rfl rfl (.inr ⟨_, _, rfl, rfl, enX_ok hok0 hx h7 (by rw [ht, List.eq_nil_of_length_eq_zero h0]), fun _ => off_set hoff (hoff x (List.mem_of_getElem? hx)), ⟨by omega, fun _ _ => ?_, by omega, by omega, by omega⟩⟩))
            · rw [Nat.zero_add, List.set_append_left _ _ (by omega)] at h
              exact enX_st hx hk hxl (by rw [hx1, hgt]) hg1 hg2 hg3 (by omega) (h.psub (by first | ((repeat (first | exact PSub.nil | exact Ext.head | apply Ext.tail | apply PSub.cons)); done) | fail))
            · rw [lsOf, ls_set, List.length_set]
        · rcases hstep with hstep | hstep
          all_goals
            (repeat (first | (refine i_dst ?_; (first | (refine i_move ?_; refine l_q rfl rfl rfl (q_move rfl) ?_) | (refine i_assign ?_; refine l_q rfl rfl rfl (q_assign rfl) ?_) | (refine i_load ?_; refine l_q rfl rfl rfl (by (first | (exact q_ld1 tab rfl rfl rfl (by first | ((repeat (first | exact List.Mem.head _ | apply List.Mem.tail)); done) | fail) (by (rfl))) | (exact q_ldS tab rfl rfl rfl (by ((exact fun w h => row_src (h.mem (by first | ((repeat (first | exact List.Mem.head _ | apply List.Mem.tail)); done) | fail))))) (by (assumption))))) ?_) | (refine i_bin ?_; refine l_q rfl rfl rfl (by (first | exact q_neq rfl rfl | exact q_gtr rfl rfl | exact q_eqnil tab rfl rfl rfl)) ?_) | (refine i_blt ?_; refine l_q rfl rfl rfl (by (exact q_len tab rfl rfl)) ?_) | (refine i_ix ?_; refine l_q rfl rfl rfl (by (exact q_indexAddrA1 tab rfl rfl rfl rfl (by omega))) ?_) | (refine l_q rfl rfl rfl (by (first | (apply iq_fld; (exact q_fieldAddr tab rfl rfl rfl rfl rfl rfl rfl)) | (apply iq_nck; (first | exact q_nilck rfl | (exact q_nckS rfl (by ((exact fun w h => row_src (h.mem (by first | ((repeat (first | exact List.Mem.head _ | apply List.Mem.tail)); done) | fail))))) (by (omega))))) | exact q_pick_t rfl rfl | exact q_pick_f rfl rfl)) ?_))) | refine d_seq ?_ | refine c_region ?_ | refine l_nil ?_ | refine c_block ?_ | (refine i_q ?_; (first | refine d_then ?_ | refine d_then_ret ?_ | refine t_block_ret ?_)) | refine c_ret ?_ | (refine i_guard ?_; (first | refine l_gt rfl rfl rfl ?_ | refine l_gf rfl rfl rfl rfl rfl rfl ?_ | refine l_gtd rfl rfl rfl (by (exact decide_eq_true (by omega))) ?_ | refine l_gfd rfl rfl rfl (by (exact decide_eq_false (by omega))) rfl rfl ?_)) | (refine i_cond ?_; (first | refine c_ct rfl (by (exact decide_eq_true (by omega))) ?_ | refine c_cf rfl (by (first | rfl | assumption | exact decide_eq_false (by omega))) ?_))))
            exact t_hp (hp' := []) (fun w h => h.psub (by first | ((repeat (first | exact PSub.nil | exact Ext.head | apply Ext.tail | apply PSub.cons)); done) | fail)) (t_ret2 Try.results46 rfl rfl (.inl ⟨_, _, rfl, by omega⟩))
      · rcases hstep with hstep | hstep
        all_goals
          (repeat (first | (refine i_dst ?_; (first | (refine i_move ?_; refine l_q rfl rfl rfl (q_move rfl) ?_) | (refine i_assign ?_; refine l_q rfl rfl rfl (q_assign rfl) ?_) | (refine i_load ?_; refine l_q rfl rfl rfl (by (first | (exact q_ld1 tab rfl rfl rfl (by first | ((repeat (first | exact List.Mem.head _ | apply List.Mem.tail)); done) | fail) (by (rfl))) | (exact q_ldS tab rfl rfl rfl (by ((exact fun w h => row_src (h.mem (by first | ((repeat (first | exact List.Mem.head _ | apply List.Mem.tail)); done) | fail))))) (by (assumption))))) ?_) | (refine i_bin ?_; refine l_q rfl rfl rfl (by (first | exact q_neq rfl rfl | exact q_gtr rfl rfl | exact q_eqnil tab rfl rfl rfl)) ?_) | (refine i_blt ?_; refine l_q rfl rfl rfl (by (exact q_len tab rfl rfl)) ?_) | (refine l_q rfl rfl rfl (by (first | (apply iq_fld; (exact q_fieldAddr tab rfl rfl rfl rfl rfl rfl rfl)) | (apply iq_nck; (first | exact q_nilck rfl | (exact q_nckS rfl (by ((exact fun w h => row_src (h.mem (by first | ((repeat (first | exact List.Mem.head _ | apply List.Mem.tail)); done) | fail))))) (by (omega))))) | exact q_pick_t rfl rfl | exact q_pick_f rfl rfl)) ?_))) | refine d_seq ?_ | refine c_region ?_ | refine l_nil ?_ | refine c_block ?_ | (refine i_q ?_; (first | refine d_then ?_ | refine d_then_ret ?_ | refine t_block_ret ?_)) | refine c_ret ?_ | (refine i_guard ?_; (first | refine l_gt rfl rfl rfl ?_ | refine l_gf rfl rfl rfl rfl rfl rfl ?_ | refine l_gtd rfl rfl rfl (by (exact decide_eq_true (by omega))) ?_ | refine l_gfd rfl rfl rfl (by (exact decide_eq_false (by omega))) rfl rfl ?_)) | (refine i_cond ?_; (first | refine c_ct rfl (by (exact decide_eq_true (by omega))) ?_ | refine c_cf rfl (by (first | rfl | assumption | exact decide_eq_false (by omega))) ?_))))
          exact t_hp (hp' := []) (fun w h => h.psub (by first | ((repeat (first | exact PSub.nil | exact Ext.head | apply Ext.tail | apply PSub.cons)); done) | fail)) (t_ret2 Try.results46 rfl rfl (.inl ⟨_, _, rfl, by omega⟩))
    · (repeat (first | (refine i_dst ?_; (first | (refine i_move ?_; refine l_q rfl rfl rfl (q_move rfl) ?_) | (refine i_assign ?_; refine l_q rfl rfl rfl (q_assign rfl) ?_) | (refine i_load ?_; refine l_q rfl rfl rfl (by ((exact q_ld1 tab rfl rfl rfl (by first | ((repeat (first | exact List.Mem.head _ | apply List.Mem.tail)); done) | fail) (by (rfl))))) ?_) | (refine i_bin ?_; refine l_q rfl rfl rfl (by (exact q_neq rfl rfl)) ?_) | (refine l_q rfl rfl rfl (by (first | (apply iq_fld; (exact q_fieldAddr tab rfl rfl rfl rfl rfl rfl rfl)) | (apply iq_nck; (exact q_nilck rfl)) | exact q_pick_t rfl rfl)) ?_))) | refine d_seq ?_ | refine c_region ?_ | refine l_nil ?_ | refine c_block ?_ | (refine i_q ?_; (first | refine d_then ?_ | refine d_then_ret ?_ | refine t_block_ret ?_)) | refine c_ret ?_ | (refine i_guard ?_; (first | refine l_gt rfl rfl rfl ?_ | refine l_gtd rfl rfl rfl (by (exact decide_eq_true (by omega))) ?_)) | (refine i_cond ?_; (refine c_ct rfl (by (exact decide_eq_true (by omega))) ?_))))
      exact t_hp (hp' := []) (fun w h => h.psub (by first | ((repeat (first | exact PSub.nil | exact Ext.head | apply Ext.tail | apply PSub.cons)); done) | fail)) (t_ret2 Try.results46 rfl rfl (.inl ⟨_, _, rfl, by omega⟩))
end Go.Proofs.Ytboccjdncdaakaa

/-
  Layer 11: point, walked.
-/

set_option linter.unusedVariables false
set_option maxRecDepth 100000
namespace Go.Proofs.Ytboccjdncdaakaa
open Go.RowKit
attribute [local irreducible] TL TC TQ TK TO Qt TA
theorem pt_st {S : Nat → Prop} {w0 w : World} {p b i k e : Nat} {d : DqV} (h : St S w0 [blk p [.int .i64 4, .int .i64 d.step, .slice d.A d.xs.length d.c, .pointer (some ⟨b, 0, none⟩)] 98, row 27 8 (.slice d.A d.xs.length d.c) d.xs.length (d.xs.flatMap lstCells), starL (d.xs.map tblA), blk b [.int .i64 i, .int .i64 k, .int .i64 e] 125] w) : St S w0 (dqL p ⟨d.step, d.A, d.c, d.xs, some (b, i, k, e)⟩) w := h
attribute [local irreducible] blk row bytesA starL memA segA roB otA entA tblA
set_option maxHeartbeats 8000000 in
theorem dpoint_spec {p : Nat} {d : DqV} {w : World} (hA : Hold (dqL p d) w) (hok : DqOk d) (hoff : Off d) (c : CmdV) (hc : c.code = 22) (hcok : c.Ok) :
    Calls Try.prog 47 #[.pointer (some ⟨p, 0, none⟩), .agg (cmdC c).toArray] w (Ret w (dqL p d) (DoOut p c d)) := by
  have hmx : maxLen = 2 ^ 63 - 1 := rfl
  have hok0 := hok
  obtain ⟨hlen, hst, htot, hlists, hfree, hptr⟩ := hok
  have ha0 := hcok.a0
  have ha1 := hcok.a1
  have ha2 := hcok.a2
  refine enter (vs := [.pointer (some ⟨p, 0, none⟩), .agg (cmdC c).toArray]) Try.func47 rfl Try.ntmps47 rfl hA ?_
  refine c_fact (p := DqSh d) (fun w h => dq_sh (F := []) h) ?_
  rintro ⟨⟨hc1, hc2⟩, hgA, htv⟩
  refine c_hp (hp' := [blk p [.int .i64 4, .int .i64 d.step, .slice d.A d.xs.length d.c, ptV d.pv] 98, row 27 8 (.slice d.A d.xs.length d.c) d.xs.length (d.xs.flatMap lstCells), starL (d.xs.map tblA)]) (fun w h => h.subl (by first | ((repeat (first | exact SubL.nil | apply SubL.keep | apply SubL.skip)); done) | fail)) ?_
  simp only [cmdC]
  (repeat (first | (refine i_dst ?_; (first | (refine i_move ?_; refine l_q rfl rfl rfl (q_move rfl) ?_) | (refine i_assign ?_; refine l_q rfl rfl rfl (q_assign rfl) ?_) | (refine i_load ?_; refine l_q rfl rfl rfl (by ((exact q_ld1 tab rfl rfl rfl (by first | ((repeat (first | exact List.Mem.head _ | apply List.Mem.tail)); done) | fail) (by (rfl))))) ?_) | (refine i_ix ?_; refine l_q rfl rfl rfl (by (exact q_indexAddrA1 tab rfl rfl rfl rfl (by omega))) ?_) | (refine i_box ?_; (refine l_boxA rfl rfl (fun _ => ?_))) | (refine l_q rfl rfl rfl (by ((apply iq_fld; (exact q_fieldAddr tab rfl rfl rfl rfl rfl rfl rfl)))) ?_))) | refine d_seq ?_ | refine c_region ?_ | refine l_nil ?_ | (refine i_q ?_; (refine d_then ?_))))
  rename_i b3
  (refine l_call0 rfl rfl Try.func61 rfl (by decide) (fun w' h => dtable_spec (Ro.empty (h.mem (X := blk p [.int .i64 4, .int .i64 d.step, .slice d.A d.xs.length d.c, ptV d.pv] 98) (by first | ((repeat (first | exact List.Mem.head _ | apply List.Mem.tail)); done) | fail))) (Ro.empty (h.mem (X := row 27 8 (.slice d.A d.xs.length d.c) d.xs.length (d.xs.flatMap lstCells)) (by first | ((repeat (first | exact List.Mem.head _ | apply List.Mem.tail)); done) | fail))) rfl hgA htv c.a0 c.a1 ha0 ha1) (fun v B hv => ?_); obtain ⟨⟨rfl, hno⟩ | ⟨x, At, ct, hx, hk, hx1, rfl⟩, rfl⟩ := hv)
  · (repeat (first | (refine i_dst ?_; ((refine i_assign ?_; refine l_q rfl rfl rfl (q_assign rfl) ?_))) | refine d_seq ?_ | refine l_nil ?_ | refine c_block ?_ | (refine i_q ?_; (refine d_then ?_))))
    (refine a_begin mixed _ 14 rfl (fun w h => h) ?_)
    ((refine a_q 0 rfl rfl rfl rfl rfl (by decide +kernel) (q_move rfl) ?_; refine a_q 1 rfl rfl rfl rfl rfl (by decide +kernel) (by (exact q_eqnil tab rfl rfl rfl)) ?_; refine a_q 2 rfl rfl rfl rfl rfl (by decide +kernel) (q_move rfl) ?_; (refine a_gf 3 rfl rfl rfl rfl rfl rfl rfl rfl (by decide +kernel) ?_); (refine a_gf 4 rfl rfl rfl rfl rfl rfl rfl rfl (by decide +kernel) ?_); (refine a_gf 5 rfl rfl rfl rfl rfl rfl rfl rfl (by decide +kernel) ?_); (refine a_gf 6 rfl rfl rfl rfl rfl rfl rfl rfl (by decide +kernel) ?_); (refine a_gf 7 rfl rfl rfl rfl rfl rfl rfl rfl (by decide +kernel) ?_); (refine a_gf 8 rfl rfl rfl rfl rfl rfl rfl rfl (by decide +kernel) ?_); (refine a_gf 9 rfl rfl rfl rfl rfl rfl rfl rfl (by decide +kernel) ?_); (refine a_gf 10 rfl rfl rfl rfl rfl rfl rfl rfl (by decide +kernel) ?_); (refine a_gf 11 rfl rfl rfl rfl rfl rfl rfl rfl (by decide +kernel) ?_); refine a_q 12 rfl rfl rfl rfl rfl (by decide +kernel) (by (exact q_pick_t rfl rfl)) ?_; refine a_q 13 rfl rfl rfl rfl rfl (by decide +kernel) (q_assign rfl) ?_))
    refine a_done (by decide +kernel) ?_
    (repeat (first | (refine i_dst ?_; ((refine i_assign ?_; refine l_q rfl rfl rfl (q_assign rfl) ?_))) | refine d_seq ?_ | refine c_region ?_ | refine l_nil ?_ | (refine i_q ?_; (first | refine d_then ?_ | refine d_then_ret ?_ | refine t_block_ret ?_)) | refine c_ret ?_ | (refine i_cond ?_; (refine c_ct rfl (by (rfl)) ?_))))
    exact t_hp (hp' := []) (fun w h => h.psub (by first | ((repeat (first | exact PSub.nil | exact Ext.head | apply Ext.tail | apply PSub.cons)); done) | fail)) (t_ret2 Try.results47 rfl rfl (.inl ⟨_, _, rfl, by omega⟩))
  · obtain ⟨hxl, ⟨At', ct', hx1', hx2, hx3, hx4⟩, hxt⟩ := htv x (List.mem_of_getElem? hx)
    rw [hx1] at hx1'
    injection hx1' with e1 e2 e3
    subst e1 e3
    have hxo := hoff x (List.mem_of_getElem? hx)
    have hi := (List.getElem?_eq_some_iff.1 hx).1
    obtain ⟨v, hv⟩ : ∃ v, x.tvs[c.a1]? = some v := ⟨_, List.getElem?_eq_getElem hk⟩
    obtain ⟨t, ht⟩ : ∃ t, x.l.tabs[c.a1]? = some t := ⟨_, List.getElem?_eq_getElem (by omega)⟩
    obtain ⟨Ae, ce, rfl, he1, he2, he3⟩ := hxt c.a1 v t hv ht
    obtain ⟨gt0, hgt⟩ := hx4 (by omega)
    have hnn : (adr At c.a1).isNone = false := by rw [hgt, adr_some]; rfl
    refine l_hp (fun w h => tbl_focus hx (h.ext (X := starL (d.xs.map tblA)) (by first | ((repeat (first | exact Ext.head | apply Ext.tail)); done) | fail))) ?_
    rw [hx1]
    by_cases ha2 : c.a2 < t.length
    · (repeat (first | (refine i_dst ?_; ((refine i_assign ?_; refine l_q rfl rfl rfl (q_assign rfl) ?_))) | refine d_seq ?_ | refine l_nil ?_ | refine c_block ?_ | (refine i_q ?_; (refine d_then ?_))))
      (refine a_begin mixed _ 14 rfl (fun w h => h) ?_)
      ((refine a_q 0 rfl rfl rfl rfl rfl (by decide +kernel) (q_move rfl) ?_; refine a_q 1 rfl rfl rfl rfl rfl (by decide +kernel) (by (exact q_eqnil tab rfl rfl rfl)) ?_; refine a_q 2 rfl rfl rfl rfl rfl (by decide +kernel) (q_move rfl) ?_; ((refine a_known 18 false rfl (by (assumption)) ?_; ((refine a_gt 3 rfl rfl rfl rfl rfl rfl rfl (by decide +kernel) (by ((apply iq_fld; (exact q_fieldAddr tab rfl rfl rfl rfl rfl rfl rfl)))) ?_)))); (refine a_gt 4 rfl rfl rfl rfl rfl rfl rfl (by decide +kernel) (by (exact q_indexAddrA1 tab rfl rfl rfl rfl (by omega))) ?_); ((refine a_gt 5 rfl rfl rfl rfl rfl rfl rfl (by decide +kernel) (by ((exact q_ld1 tab rfl rfl rfl (by first | ((repeat (first | exact List.Mem.head _ | apply List.Mem.tail)); done) | fail) (by (rfl))))) ?_)); ((refine a_gt 6 rfl rfl rfl rfl rfl rfl rfl (by decide +kernel) (by ((apply iq_cv; (exact q_conv tab rfl rfl rfl (by (exact wr_i64 (by omega))))))) ?_)); (refine a_gt 7 rfl rfl rfl rfl rfl rfl rfl (by decide +kernel) (q_move rfl) ?_); ((refine a_gt 8 rfl rfl rfl rfl rfl rfl rfl (by decide +kernel) (by ((apply iq_nck; ((exact q_nckS rfl (by ((exact fun w h => row_src (h.mem (by first | ((repeat (first | exact List.Mem.head _ | apply List.Mem.tail)); done) | fail))))) (by (omega))))))) ?_)); ((refine a_gt 9 rfl rfl rfl rfl rfl rfl rfl (by decide +kernel) (by ((exact q_ldS tab rfl rfl rfl (by ((exact fun w h => row_src (h.mem (by first | ((repeat (first | exact List.Mem.head _ | apply List.Mem.tail)); done) | fail))))) (by (assumption))))) ?_)); (refine a_gt 10 rfl rfl rfl rfl rfl rfl rfl (by decide +kernel) (by (exact q_len tab rfl rfl)) ?_); (refine a_gt 11 rfl rfl rfl rfl rfl rfl rfl (by decide +kernel) (by (exact q_geq rfl rfl)) ?_); refine a_q 12 rfl rfl rfl rfl rfl (by decide +kernel) (by (exact q_pick_f rfl rfl)) ?_; refine a_q 13 rfl rfl rfl rfl rfl (by decide +kernel) (q_assign rfl) ?_))
      refine a_done (by decide +kernel) ?_
      (repeat (first | refine d_seq ?_ | (refine i_q ?_; (refine d_then ?_)) | (refine i_cond ?_; (refine c_cf rfl (by (exact decide_eq_false (by omega))) ?_))))
      (refine a_begin mixed _ 11 rfl (fun w h => h) ?_)
      ((refine a_q 0 rfl rfl rfl rfl rfl (by decide +kernel) (q_move rfl) ?_; refine a_q 1 rfl rfl rfl rfl rfl (by decide +kernel) (by ((apply iq_nck; (exact q_nilck rfl)))) ?_; refine a_q 2 rfl rfl rfl rfl rfl (by decide +kernel) (by ((apply iq_fld; (exact q_fieldAddr tab rfl rfl rfl rfl rfl rfl rfl)))) ?_; ((refine a_q 3 rfl rfl rfl rfl rfl (by decide +kernel) (by ((exact q_ld1 tab rfl rfl rfl (by first | ((repeat (first | exact List.Mem.head _ | apply List.Mem.tail)); done) | fail) (by (rfl))))) ?_)); refine a_q 4 rfl rfl rfl rfl rfl (by decide +kernel) (by ((apply iq_fld; (exact q_fieldAddr tab rfl rfl rfl rfl rfl rfl rfl)))) ?_; refine a_q 5 rfl rfl rfl rfl rfl (by decide +kernel) (by (exact q_indexAddrA1 tab rfl rfl rfl rfl (by omega))) ?_; ((refine a_q 6 rfl rfl rfl rfl rfl (by decide +kernel) (by ((exact q_ld1 tab rfl rfl rfl (by first | ((repeat (first | exact List.Mem.head _ | apply List.Mem.tail)); done) | fail) (by (rfl))))) ?_)); refine a_q 7 rfl rfl rfl rfl rfl (by decide +kernel) (by ((exact q_ixSN tab rfl rfl rfl rfl (by ((exact fun w h => row_src (h.mem (by first | ((repeat (first | exact List.Mem.head _ | apply List.Mem.tail)); done) | fail))))) (by first | (with_reducible exact Int.toNat_natCast _) | (with_reducible exact Int.toNat_zero) | (with_reducible exact Int.toNat_one) | rfl) (by (omega)) (by (omega))))) ?_; refine a_q 8 rfl rfl rfl rfl rfl (by decide +kernel) (by ((apply iq_fld; ((exact q_fldS tab rfl rfl rfl rfl rfl rfl rfl (by ((exact fun w h => row_src (h.mem (by first | ((repeat (first | exact List.Mem.head _ | apply List.Mem.tail)); done) | fail))))) (by (omega))))))) ?_; ((refine a_q 9 rfl rfl rfl rfl rfl (by decide +kernel) (by ((exact q_ldF tab rfl rfl rfl (by ((exact fun w h => row_src (h.mem (by first | ((repeat (first | exact List.Mem.head _ | apply List.Mem.tail)); done) | fail))))) (by exact fun _ => rfl) (by assumption) (by exact rfl)))) ?_)); refine a_q 10 rfl rfl rfl rfl rfl (by decide +kernel) (q_assign rfl) ?_))
      refine a_done (by decide +kernel) ?_
      (repeat (first | (refine i_dst ?_; (first | (refine i_move ?_; refine l_q rfl rfl rfl (q_move rfl) ?_) | (refine i_assign ?_; refine l_q rfl rfl rfl (q_assign rfl) ?_) | (refine i_load ?_; refine l_q rfl rfl rfl (by ((exact q_ld1 tab rfl rfl rfl (by first | ((repeat (first | exact List.Mem.head _ | apply List.Mem.tail)); done) | fail) (by (rfl))))) ?_) | (refine i_ix ?_; refine l_q rfl rfl rfl (by (exact q_indexAddrA1 tab rfl rfl rfl rfl (by omega))) ?_) | (refine i_box ?_; (refine l_boxA rfl rfl (fun _ => ?_))) | (refine l_q rfl rfl rfl (by (first | (apply iq_fld; (exact q_fieldAddr tab rfl rfl rfl rfl rfl rfl rfl)) | (apply iq_nck; (exact q_nilck rfl)) | (apply iq_cv; (exact q_conv tab rfl rfl rfl (by (exact wr_i64 (by omega))))) | (apply iq_bld; ((exact q_bld tab rfl rfl rfl (by first | ((repeat (first | exact FillR.nil | exact LSets.nil | exact LSet.zero | exact CellsOf.agg | exact rfl | exact CellsOf.one rfl | apply FillR.cons | apply LSets.cons | apply LSet.succ)); done) | fail) (fun w => by kernel_rfl)))))) ?_))) | refine d_seq ?_ | refine c_region ?_ | refine l_nil ?_ | (refine i_q ?_; (first | refine d_then ?_ | refine t_block ?_)) | refine c_skip ?_ | refine c_ret ?_ | (refine i_store ?_; ((refine l_set tab rfl rfl rfl rfl (by first | ((repeat (first | exact Upd.head | apply Upd.tail)); done) | fail) (by first | ((repeat (first | exact LSet.zero | apply LSet.succ)); done) | fail) ?_))) | (refine i_cond ?_; (refine c_cf rfl (by (assumption)) ?_))))
      rename_i bn
      refine t_hp (hp' := dqL p ⟨d.step, d.A, d.c, d.xs, some (bn, c.a0, c.a1, c.a2)⟩) (fun w h => ?_) (t_ret2 Try.results47 rfl rfl (.inr ⟨_, _, rfl, rfl, ⟨hlen, hst, htot, hlists, hfree, fun y hy => ?_⟩, fun _ => hoff, ⟨by omega, fun _ _ => rfl, by omega, by omega, by omega⟩⟩))
      · have h1 := h.psub (hp' := row 37 1 (.slice At x.tvs.length ct) x.tvs.length x.tvs :: starL (List.zipWith entA x.tvs x.l.tabs) :: starL ((d.xs.map tblA).set c.a0 emp) :: [blk p [.int .i64 4, .int .i64 d.step, .slice d.A d.xs.length d.c, .pointer (some ⟨bn, 0, none⟩)] 98, row 27 8 (.slice d.A d.xs.length d.c) d.xs.length (d.xs.flatMap lstCells), blk bn [.int .i64 c.a0, .int .i64 c.a1, .int .i64 c.a2] 125]) (by first | ((repeat (first | exact PSub.nil | exact Ext.head | apply Ext.tail | apply PSub.cons)); done) | fail)
        rw [← hx1] at h1
        have h2 := tbl_unfocus hi hxl h1
        rw [set_same hx] at h2
        exact pt_st (h2.psub (by first | ((repeat (first | exact PSub.nil | exact Ext.head | apply Ext.tail | apply PSub.cons)); done) | fail))
      · injection hy with hy
        subst hy
        exact ⟨x, t, hx, ht, ha2⟩
    · (repeat (first | (refine i_dst ?_; ((refine i_assign ?_; refine l_q rfl rfl rfl (q_assign rfl) ?_))) | refine d_seq ?_ | refine l_nil ?_ | refine c_block ?_ | (refine i_q ?_; (refine d_then ?_))))
      (refine a_begin mixed _ 14 rfl (fun w h => h) ?_)
      ((refine a_q 0 rfl rfl rfl rfl rfl (by decide +kernel) (q_move rfl) ?_; refine a_q 1 rfl rfl rfl rfl rfl (by decide +kernel) (by (exact q_eqnil tab rfl rfl rfl)) ?_; refine a_q 2 rfl rfl rfl rfl rfl (by decide +kernel) (q_move rfl) ?_; ((refine a_known 18 false rfl (by (assumption)) ?_; ((refine a_gt 3 rfl rfl rfl rfl rfl rfl rfl (by decide +kernel) (by ((apply iq_fld; (exact q_fieldAddr tab rfl rfl rfl rfl rfl rfl rfl)))) ?_)))); (refine a_gt 4 rfl rfl rfl rfl rfl rfl rfl (by decide +kernel) (by (exact q_indexAddrA1 tab rfl rfl rfl rfl (by omega))) ?_); ((refine a_gt 5 rfl rfl rfl rfl rfl rfl rfl (by decide +kernel) (by ((exact q_ld1 tab rfl rfl rfl (by first | ((repeat (first | exact List.Mem.head _ | apply List.Mem.tail)); done) | fail) (by (rfl))))) ?_)); ((refine a_gt 6 rfl rfl rfl rfl rfl rfl rfl (by decide +kernel) (by ((apply iq_cv; (exact q_conv tab rfl rfl rfl (by (exact wr_i64 (by omega))))))) ?_)); (refine a_gt 7 rfl rfl rfl rfl rfl rfl rfl (by decide +kernel) (q_move rfl) ?_); ((refine a_gt 8 rfl rfl rfl rfl rfl rfl rfl (by decide +kernel) (by ((apply iq_nck; ((exact q_nckS rfl (by ((exact fun w h => row_src (h.mem (by first | ((repeat (first | exact List.Mem.head _ | apply List.Mem.tail)); done) | fail))))) (by (omega))))))) ?_)); ((refine a_gt 9 rfl rfl rfl rfl rfl rfl rfl (by decide +kernel) (by ((exact q_ldS tab rfl rfl rfl (by ((exact fun w h => row_src (h.mem (by first | ((repeat (first | exact List.Mem.head _ | apply List.Mem.tail)); done) | fail))))) (by (assumption))))) ?_)); (refine a_gt 10 rfl rfl rfl rfl rfl rfl rfl (by decide +kernel) (by (exact q_len tab rfl rfl)) ?_); (refine a_gt 11 rfl rfl rfl rfl rfl rfl rfl (by decide +kernel) (by (exact q_geq rfl rfl)) ?_); refine a_q 12 rfl rfl rfl rfl rfl (by decide +kernel) (by (exact q_pick_f rfl rfl)) ?_; refine a_q 13 rfl rfl rfl rfl rfl (by decide +kernel) (q_assign rfl) ?_))
      refine a_done (by decide +kernel) ?_
      (repeat (first | (refine i_dst ?_; ((refine i_assign ?_; refine l_q rfl rfl rfl (q_assign rfl) ?_))) | refine d_seq ?_ | refine c_region ?_ | refine l_nil ?_ | (refine i_q ?_; (first | refine d_then ?_ | refine d_then_ret ?_ | refine t_block_ret ?_)) | refine c_ret ?_ | (refine i_cond ?_; (refine c_ct rfl (by (exact decide_eq_true (by omega))) ?_))))
      exact t_hp (hp' := []) (fun w h => h.psub (by first | ((repeat (first | exact PSub.nil | exact Ext.head | apply Ext.tail | apply PSub.cons)); done) | fail)) (t_ret2 Try.results47 rfl rfl (.inl ⟨_, _, rfl, by omega⟩))
end Go.Proofs.Ytboccjdncdaakaa

/-
  Layer 12: the reference's Event and Start, walked.
-/
import Derived.Test.YtkeekkdaielipaaU5
set_option linter.unusedVariables false
set_option maxRecDepth 100000
namespace Go.Proofs.Ytkeekkdaielipaa
open Go.RowKit
attribute [local irreducible] TL TC TQ TK TO Qt TA

abbrev rfT : TypeId := 86
theorem bucketM_len (pr : Nat → Nat) (l : List Nat) (h : ∀ x, pr x < 256) : (bucketM pr l 256).length = l.length := by rw [bucketM_sort h, length_sortM]
theorem priM_lt {ls : List ListI} (h : ∀ l ∈ ls, l.pri ≤ 255) (x : Nat) : priM ls x < 256 := by
  rw [priM]
  split
  · rename_i l hl
    have := h l (List.mem_of_getElem? hl)
    omega
  · omega
theorem filter_take {p : Nat → Bool} {d : List Nat} {k x : Nat} (h : d[k]? = some x) : (d.take (k + 1)).filter p = (d.take k).filter p ++ if p x then [x] else [] := by
  rw [List.take_add_one, h, List.filter_append]
  cases hq : p x <;> simp [hq]
attribute [local irreducible] blk row bytesA starL memA segA roB


set_option maxHeartbeats 4000000 in
theorem rfstart_spec {p : Nat} {f : Nat → Nat} {w : World} (hA : Hold [fireA rfT p f] w) (list : Int) :
    Calls Try.prog 39 #[.pointer (some ⟨p, 0, none⟩), .int .i64 list] w (Ret w [fireA rfT p f] fun v B => B = [fireA rfT p (if 0 ≤ list then upd f list.toNat 0 else f)]) := by
  refine enter (vs := [.pointer (some ⟨p, 0, none⟩), .int .i64 list]) Try.func39 rfl Try.ntmps39 rfl hA ?_
  unfold fireA
  by_cases h0 : 0 ≤ list
  · by_cases h4 : list < 4
    · have ho : 0 + 0 + list.toNat < (cl f).length := by simp [cl]; omega
      (repeat (first | (refine i_dst ?_; (first | (refine i_move ?_; refine l_q rfl rfl rfl (q_move rfl) ?_) | (refine i_bin ?_; refine l_q rfl rfl rfl (by (first | exact q_lss rfl rfl | exact q_geq rfl rfl)) ?_) | (refine i_ix ?_; refine l_q rfl rfl rfl (by (exact q_indexAddrA1 tab rfl rfl rfl rfl (by omega))) ?_) | (refine l_q rfl rfl rfl (by (first | (apply iq_fld; (exact q_fieldAddr tab rfl rfl rfl rfl rfl rfl rfl)) | (apply iq_nck; (exact q_nilck rfl)) | exact q_pick_t rfl rfl)) ?_))) | refine d_seq ?_ | refine c_region ?_ | refine l_nil ?_ | (refine i_q ?_; (refine d_then ?_)) | (refine i_guard ?_; (first | refine l_gt rfl rfl rfl ?_ | refine l_gtd rfl rfl rfl (by (exact decide_eq_true (by omega))) ?_)) | (refine i_store ?_; ((refine l_setI tab rfl rfl rfl rfl (by first | ((repeat (first | exact Upd.head | apply Upd.tail)); done) | fail) (by (omega)) ?_))) | (refine i_cond ?_; (refine c_ct rfl (by (exact decide_eq_true (by omega))) ?_))))
      refine t_end0 Try.results39 ?_
      rw [if_pos h0, show 0 + 0 + list.toNat = list.toNat by omega, show (Value.int .i64 0) = .int .i64 ((0 : Nat) : Int) from rfl, cl_set f (by omega)]
    · (repeat (first | (refine i_dst ?_; (first | (refine i_move ?_; refine l_q rfl rfl rfl (q_move rfl) ?_) | (refine i_bin ?_; refine l_q rfl rfl rfl (by (first | exact q_lss rfl rfl | exact q_geq rfl rfl)) ?_) | refine l_q rfl rfl rfl (by (exact q_pick_t rfl rfl)) ?_)) | refine d_seq ?_ | refine c_region ?_ | refine l_nil ?_ | (refine i_q ?_; (refine d_then ?_)) | refine c_skip ?_ | (refine i_guard ?_; (first | refine l_gt rfl rfl rfl ?_ | refine l_gtd rfl rfl rfl (by (exact decide_eq_true (by omega))) ?_)) | (refine i_cond ?_; (refine c_cf rfl (by (exact decide_eq_false (by omega))) ?_))))
      refine t_end0 Try.results39 ?_
      have e : cl (if 0 ≤ list then upd f list.toNat 0 else f) = cl f := cl_congr fun k hk => by rw [if_pos h0, upd, if_neg (by omega)]
      rw [e]
  · (repeat (first | (refine i_dst ?_; (first | (refine i_move ?_; refine l_q rfl rfl rfl (q_move rfl) ?_) | (refine i_bin ?_; refine l_q rfl rfl rfl (by (exact q_geq rfl rfl)) ?_) | refine l_q rfl rfl rfl (by (exact q_pick_f rfl rfl)) ?_)) | refine d_seq ?_ | refine c_region ?_ | refine l_nil ?_ | (refine i_q ?_; (refine d_then ?_)) | refine c_skip ?_ | (refine i_guard ?_; (first | refine l_gf rfl rfl rfl rfl rfl rfl ?_ | refine l_gfd rfl rfl rfl (by (exact decide_eq_false (by omega))) rfl rfl ?_)) | (refine i_cond ?_; (refine c_cf rfl (by (rfl)) ?_))))
    refine t_end0 Try.results39 ?_
    rw [if_neg h0]

set_option maxHeartbeats 8000000 in
theorem rfevent_spec {p : Nat} {f : Nat → Nat} {w : World} (hA : Hold [fireA rfT p f] w) (ev : Nat) (hev : ev ≤ 255) (A : Option Addr) (n c : Nat) (ls : List ListI) (hls : InS (fps [fireA rfT p f]) w 8 (InList (fps [fireA rfT p f]) w) A n ls) (hnc : n ≤ c) (hcm : c ≤ maxLen) (hpri : ∀ l ∈ ls, l.pri ≤ 255) (hf : ∀ k, k < 4 → f k ≤ 1000000) :
    Calls Try.prog 40 #[.pointer (some ⟨p, 0, none⟩), .int .u8 ev, .slice A n c] w (Ret w [fireA rfT p f] (EventOut rfT p ls ev f)) := by
  refine enter (vs := [.pointer (some ⟨p, 0, none⟩), .int .u8 ev, .slice A n c]) Try.func40 rfl Try.ntmps40 rfl hA ?_
  generalize hS : fps [fireA rfT p f] = S0 at hls
  have hlen := hls.len
  have hmx : maxLen = 2 ^ 63 - 1 := rfl
  have hp256 := priM_lt hpri
  (repeat (first | (refine i_dst ?_; ((refine i_assign ?_; refine l_q rfl rfl rfl (q_assign rfl) ?_))) | refine d_seq ?_ | refine c_region ?_ | refine l_nil ?_ | refine c_block ?_ | (refine i_q ?_; (refine d_then ?_))))
  refine d_loop (T := Nat × (Nat → Nat) × Value) [0, 1, 2] (fun t => [(8, .int .i64 t.1), (7, t.2.2)]) [] (fun t => [blk p (cl t.2.1) rfT, row 3 1 t.2.2 (doneM ls ev f t.1).length (iv (doneM ls ev f t.1))]) (fun t => t.1 ≤ 4 ∧ ∀ k, k < 4 → t.2.1 k = if k < t.1 then countM ls ev f k else f k) (fun t => 4 - t.1) (0, f, .slice none 0 0) (by first | ((repeat (first | exact Pick.nil | exact rfl | apply Pick.cons)); done) | fail) ⟨Nat.zero_le _, fun k _ => rfl⟩ (by first | ((repeat (first | exact trivial | exact rfl | apply Sub.cons | exact look_int rfl (by omega) | exact look_int rfl (by simp) | exact look_int rfl (by simp; omega))); done) | fail) (fun w h => (st_nil h 3 1).psub (by first | ((repeat (first | exact PSub.nil | exact Ext.head | apply Ext.tail | apply PSub.cons)); done) | fail)) ?_
  rintro ⟨i, g, dv⟩ ⟨hi, hg⟩
  dsimp only at hi hg ⊢
  refine c_fact (p := ∃ Ad cd, dv = .slice Ad (doneM ls ev f i).length cd ∧ (doneM ls ev f i).length ≤ cd ∧ cd ≤ maxLen) (fun w h => ?_) ?_
  · obtain ⟨Ao, co, e1, e2, e3, -⟩ := row_slice (h.get (i := 1) rfl)
    exact ⟨Ao, co, e1, e2, e3⟩
  rintro ⟨Ad, cd, rfl, hd1, hd2⟩
  have hdl := doneM_len ls ev f i
  by_cases h4 : i < 4
  · have hgi : g i = f i := by rw [hg i h4, if_neg (by omega)]
    have hgb : g i ≤ 1000000 := by rw [hgi]; exact hf i h4
    have hsnoc := doneM_snoc ls ev f i
    have ho : 0 + 0 + (i : Int).toNat < (cl g).length := by simp [cl]; omega
    have ei : 0 + 0 + (i : Int).toNat = i := by omega
    -- a list that is none, or does not run
    by_cases hin : i < n
    · obtain ⟨l, hl⟩ : ∃ l, ls[i]? = some l := ⟨_, List.getElem?_eq_getElem (by omega)⟩
      obtain ⟨bA, oA, r, rfl, hrl, hL, hcell⟩ := hls.get (by omega) hl
      obtain ⟨⟨At, nt, ct, rfl, -⟩, -, hl2, hl3, hl4⟩ := hL
      have hc3 : ∀ hp w', St S0 w hp w' → w'.cell? ⟨bA, oA + (i : Int).toNat * 8 + 3, none⟩ = some (.int .u8 l.ev) := fun hp w' h => (hcell hp w' h) 3 _ rfl
      have hc4 : ∀ hp w', St S0 w hp w' → w'.cell? ⟨bA, oA + (i : Int).toNat * 8 + 4, none⟩ = some (.int .u8 l.pre) := fun hp w' h => (hcell hp w' h) 4 _ rfl
      cases hon : l.on with
      | false =>
        have hc6 : ∀ hp w', St S0 w hp w' → w'.cell? ⟨bA, oA + (i : Int).toNat * 8 + 6, none⟩ = some (.bool false) := fun hp w' h => by have := (hcell hp w' h) 6 _ rfl; rw [hon] at this; exact this
        have hst : fireStep ev ls[i]? (f i) = (0, false) := by rw [hl, fireStep, hon]; rfl
        rw [hst] at hsnoc
        clear hcell
        (repeat (first | (refine i_dst ?_; (first | (refine i_move ?_; refine l_q rfl rfl rfl (q_move rfl) ?_) | (refine i_assign ?_; refine l_q rfl rfl rfl (q_assign rfl) ?_) | (refine i_load ?_; refine l_q rfl rfl rfl (by (exact q_ldc tab rfl rfl rfl (by assumption))) ?_) | (refine i_bin ?_; refine l_q rfl rfl rfl (by (first | exact q_lss rfl rfl | exact q_geq rfl rfl | exact q_add rfl rfl (by (exact wr_i64 (by omega))))) ?_) | (refine i_blt ?_; refine l_q rfl rfl rfl (by (exact q_len tab rfl rfl)) ?_) | (refine i_ix ?_; refine l_q rfl rfl rfl (by (first | exact q_indexAddrA1 tab rfl rfl rfl rfl (by omega) | exact q_indexAddr tab rfl rfl rfl rfl (by omega))) ?_) | (refine l_q rfl rfl rfl (by (first | (apply iq_fld; (exact q_fieldAddr tab rfl rfl rfl rfl rfl rfl rfl)) | (apply iq_nck; (exact q_nilck rfl)) | exact q_not rfl | exact q_pick_f rfl rfl)) ?_))) | refine d_seq ?_ | refine c_region ?_ | refine l_nil ?_ | refine c_block ?_ | (refine i_q ?_; (first | refine d_then ?_ | refine t_then ?_ | refine d_then_exit ?_ | refine t_block_eq rfl ?_)) | refine c_skip ?_ | refine c_exit ?_ | (refine i_guard ?_; (first | refine l_gt rfl rfl rfl ?_ | (refine l_gtd rfl rfl rfl (by ((simp; omega))) ?_))) | (refine i_store ?_; ((refine l_setI tab rfl rfl rfl rfl (by first | ((repeat (first | exact Upd.head | apply Upd.tail)); done) | fail) (by (omega)) ?_))) | (refine i_cond ?_; (refine c_ct rfl (by (first | rfl | exact decide_eq_true (by omega))) ?_))))
        refine k_again (i + 1, upd g i 0, .slice Ad (doneM ls ev f i).length cd) ⟨by dsimp only; omega, upd_next hg (by rw [countM, hst])⟩ (by dsimp only; omega) ?_ (fun w h => ?_)
        · exact (by first | ((repeat (first | exact trivial | exact rfl | apply Sub.cons | exact look_int rfl (by omega) | exact look_int rfl (by simp) | exact look_int rfl (by simp; omega))); done) | fail)
        · dsimp only
          rw [hsnoc, if_neg (by simp), List.append_nil (doneM ls ev f i), ← cl_set g h4 0]
          rw [ei] at h
          exact h
      | true =>
        have hc6 : ∀ hp w', St S0 w hp w' → w'.cell? ⟨bA, oA + (i : Int).toNat * 8 + 6, none⟩ = some (.bool true) := fun hp w' h => by have := (hcell hp w' h) 6 _ rfl; rw [hon] at this; exact this
        clear hcell
        by_cases hev2 : l.ev = ev
        · have hv1 : (cl g)[0 + 0 + (i : Int).toNat]? = some (.int .i64 (g i)) := by rw [ei]; exact cl_get g h4
          have hv2 : (cl (upd g i (g i + 1)))[0 + 0 + (i : Int).toNat]? = some (.int .i64 ((g i + 1 : Nat) : Int)) := by rw [ei, cl_get _ h4, upd, if_pos rfl]
          have ho2 : 0 + 0 + (i : Int).toNat < (cl (upd g i (g i + 1))).length := by simp [cl]; omega
          (repeat (first | (refine i_dst ?_; (first | (refine i_move ?_; refine l_q rfl rfl rfl (q_move rfl) ?_) | (refine i_load ?_; refine l_q rfl rfl rfl (by (exact q_ldc tab rfl rfl rfl (by assumption))) ?_) | (refine i_bin ?_; refine l_q rfl rfl rfl (by (first | exact q_lss rfl rfl | exact q_neq rfl rfl | exact q_geq rfl rfl)) ?_) | (refine i_blt ?_; refine l_q rfl rfl rfl (by (exact q_len tab rfl rfl)) ?_) | (refine i_ix ?_; refine l_q rfl rfl rfl (by (exact q_indexAddr tab rfl rfl rfl rfl (by omega))) ?_) | (refine l_q rfl rfl rfl (by (first | (apply iq_fld; (exact q_fieldAddr tab rfl rfl rfl rfl rfl rfl rfl)) | exact q_not rfl | exact q_pick_f rfl rfl)) ?_))) | refine d_seq ?_ | refine c_region ?_ | refine l_nil ?_ | refine c_block ?_ | (refine i_q ?_; (refine d_then ?_)) | refine c_skip ?_ | (refine i_guard ?_; (first | refine l_gt rfl rfl rfl ?_ | (refine l_gtd rfl rfl rfl (by ((simp; omega))) ?_))) | (refine i_cond ?_; (first | refine c_ct rfl (by (exact decide_eq_true (by omega))) ?_ | refine c_cf rfl (by (first | rfl | exact decide_eq_false (by omega))) ?_))))
          (refine a_beginE mixed [blk p (cl g) rfT] [] 11 10 rfl (fun w h => h.subl (by first | ((repeat (first | exact SubL.nil | apply SubL.keep | apply SubL.skip)); done) | fail)) (fun w h => h.subl (by first | ((repeat (first | exact SubL.nil | apply SubL.keep | apply SubL.skip)); done) | fail)) ?_)
          ((refine a_q 0 rfl rfl rfl rfl rfl (by decide +kernel) (q_move rfl) ?_; refine a_q 1 rfl rfl rfl rfl rfl (by decide +kernel) (q_move rfl) ?_; refine a_q 2 rfl rfl rfl rfl rfl (by decide +kernel) (by ((apply iq_nck; (exact q_nilck rfl)))) ?_; refine a_q 3 rfl rfl rfl rfl rfl (by decide +kernel) (by ((apply iq_fld; (exact q_fieldAddr tab rfl rfl rfl rfl rfl rfl rfl)))) ?_; refine a_q 4 rfl rfl rfl rfl rfl (by decide +kernel) (by (exact q_indexAddrA1 tab rfl rfl rfl rfl (by omega))) ?_; ((refine a_y 5 rfl rfl rfl rfl rfl (by decide +kernel) (by ((exact q_ld1 tab rfl rfl rfl (by first | ((repeat (first | exact List.Mem.head _ | apply List.Mem.tail)); done) | fail) (by (assumption))))) ?_)); refine a_q 6 rfl rfl rfl rfl rfl (by decide +kernel) (by (exact q_add rfl rfl (by (exact wr_i64 (by omega))))) ?_; refine a_q 7 rfl rfl rfl rfl rfl (by decide +kernel) (by ((apply iq_nck; (exact q_nilck rfl)))) ?_; refine a_q 8 rfl rfl rfl rfl rfl (by decide +kernel) (by ((apply iq_fld; (exact q_fieldAddr tab rfl rfl rfl rfl rfl rfl rfl)))) ?_; refine a_q 9 rfl rfl rfl rfl rfl (by decide +kernel) (by (exact q_indexAddrA1 tab rfl rfl rfl rfl (by omega))) ?_))
          refine a_e 10 rfl (by decide +kernel) rfl (fun K hK => e_setI tab rfl rfl rfl rfl (by first | ((repeat (first | exact Upd.head | apply Upd.tail)); done) | fail) ho (hK _ _ (fun w h => h.subl (by first | ((repeat (first | exact SubL.nil | apply SubL.keep | apply SubL.skip)); done) | fail)) ?_))
          clear hK
          refine a_done (by decide +kernel) ?_
          refine t_hp (hp' := [blk p (cl (upd g i (g i + 1))) rfT, row 3 1 (.slice Ad (doneM ls ev f i).length cd) (doneM ls ev f i).length (iv (doneM ls ev f i))]) (fun w h => by
            rw [← cl_set g h4 (g i + 1)]
            rw [ei] at h
            exact h) ?_
          (repeat (first | refine d_seq ?_ | (refine i_q ?_; (refine d_then ?_))))
          (refine a_begin mixed _ 13 rfl (fun w h => h) ?_)
          ((refine a_q 0 rfl rfl rfl rfl rfl (by decide +kernel) (q_move rfl) ?_; refine a_q 1 rfl rfl rfl rfl rfl (by decide +kernel) (q_move rfl) ?_; refine a_q 2 rfl rfl rfl rfl rfl (by decide +kernel) (by ((apply iq_nck; (exact q_nilck rfl)))) ?_; refine a_q 3 rfl rfl rfl rfl rfl (by decide +kernel) (by ((apply iq_fld; (exact q_fieldAddr tab rfl rfl rfl rfl rfl rfl rfl)))) ?_; refine a_q 4 rfl rfl rfl rfl rfl (by decide +kernel) (by (exact q_indexAddrA1 tab rfl rfl rfl rfl (by omega))) ?_; ((refine a_q 5 rfl rfl rfl rfl rfl (by decide +kernel) (by ((exact q_ld1 tab rfl rfl rfl (by first | ((repeat (first | exact List.Mem.head _ | apply List.Mem.tail)); done) | fail) (by (assumption))))) ?_)); refine a_q 6 rfl rfl rfl rfl rfl (by decide +kernel) (q_move rfl) ?_; refine a_q 7 rfl rfl rfl rfl rfl (by decide +kernel) (q_move rfl) ?_; refine a_q 8 rfl rfl rfl rfl rfl (by decide +kernel) (by (exact q_indexAddr tab rfl rfl rfl rfl (by omega))) ?_; refine a_q 9 rfl rfl rfl rfl rfl (by decide +kernel) (by ((apply iq_fld; (exact q_fieldAddr tab rfl rfl rfl rfl rfl rfl rfl)))) ?_; (refine a_q 10 rfl rfl rfl rfl rfl (by decide +kernel) (by (exact q_ldc tab rfl rfl rfl (by assumption))) ?_); refine a_q 11 rfl rfl rfl rfl rfl (by decide +kernel) (by ((apply iq_cv; (exact q_conv tab rfl rfl rfl (by (exact wr_i64 (by omega))))))) ?_; refine a_q 12 rfl rfl rfl rfl rfl (by decide +kernel) (by (exact q_geq rfl rfl)) ?_))
          refine a_done (by decide +kernel) ?_
          by_cases hpre : l.pre ≤ g i + 1
          · have hst : fireStep ev ls[i]? (f i) = (0, true) := by rw [hl, fireStep, hon, if_pos rfl, if_pos hev2, if_pos (by rw [← hgi]; exact hpre)]
            rw [hst, if_pos rfl] at hsnoc
            (repeat (first | (refine i_dst ?_; (first | (refine i_move ?_; refine l_q rfl rfl rfl (q_move rfl) ?_) | (refine i_ix ?_; refine l_q rfl rfl rfl (by (exact q_indexAddrA1 tab rfl rfl rfl rfl (by omega))) ?_) | (refine i_bldS ?_; refine l_bldS tab rfl rfl rfl rfl (by first | exact CellsOf.agg | exact CellsOf.one rfl) (by first | ((repeat (first | exact RepR.zero | exact AppR.nil | apply RepR.succ | apply AppR.cons)); done) | fail) (by first | ((repeat (first | exact FillR.nil | exact LSets.nil | exact LSet.zero | exact CellsOf.agg | exact rfl | exact CellsOf.one rfl | apply FillR.cons | apply LSets.cons | apply LSet.succ)); done) | fail) (fun w => by kernel_rfl) (fun _ => ?_)) | (refine l_q rfl rfl rfl (by (first | (apply iq_fld; (exact q_fieldAddr tab rfl rfl rfl rfl rfl rfl rfl)) | (apply iq_nck; (exact q_nilck rfl)))) ?_))) | refine d_seq ?_ | refine c_region ?_ | refine l_nil ?_ | (refine i_q ?_; (refine d_then ?_)) | (refine i_store ?_; ((refine l_setI tab rfl rfl rfl rfl (by first | ((repeat (first | exact Upd.head | apply Upd.tail)); done) | fail) (by (omega)) ?_))) | (refine i_cond ?_; (refine c_ct rfl (by (exact decide_eq_true (by omega))) ?_))))
            rename_i g7
            (refine l_app tab rfl rfl rfl rowII (by first | ((repeat (first | exact Ext.head | apply Ext.tail)); done) | fail) (news := [.int .i64 (i : Int)]) (fun w h => SrcAt.blk (h.mem (X := blk g7 _ _) (by first | ((repeat (first | exact List.Mem.head _ | apply List.Mem.tail)); done) | fail)) rfl) (by simp [Value.oneCell']) (by omega) (by omega) (fun A6 c6 hA1 hA2 => ?_))
            (repeat (first | (refine i_dst ?_; (first | (refine i_move ?_; refine l_q rfl rfl rfl (q_move rfl) ?_) | (refine i_assign ?_; refine l_q rfl rfl rfl (q_assign rfl) ?_) | (refine i_bin ?_; refine l_q rfl rfl rfl (by (exact q_add rfl rfl (by (exact wr_i64 (by omega))))) ?_))) | refine c_region ?_ | refine l_nil ?_ | (refine i_q ?_; (first | refine d_then ?_ | refine t_then ?_ | refine t_block ?_))))
            refine k_again (i + 1, upd g i 0, .slice A6 ((doneM ls ev f i).length + 1) c6) ⟨by dsimp only; omega, upd_next hg (by rw [countM, hst])⟩ (by dsimp only; omega) ?_ (fun w h => ?_)
            · exact (by first | ((repeat (first | exact trivial | exact rfl | apply Sub.cons | exact look_int rfl (by omega) | exact look_int rfl (by simp) | exact look_int rfl (by simp; omega))); done) | fail)
            · dsimp only
              rw [hsnoc, List.length_append, iv_append, ← cl_set g h4 0]
              have e9 : (cl (upd g i (g i + 1))).set i (.int .i64 ((0 : Nat) : Int)) = (cl g).set i (.int .i64 ((0 : Nat) : Int)) := by rw [← cl_set g h4 (g i + 1), List.set_set]
              rw [← e9]
              rw [ei] at h
              exact h.psub (by first | ((repeat (first | exact PSub.nil | exact Ext.head | apply Ext.tail | apply PSub.cons)); done) | fail)
          · have hst : fireStep ev ls[i]? (f i) = (f i + 1, false) := by rw [hl, fireStep, hon, if_pos rfl, if_pos hev2, if_neg (by rw [← hgi]; exact hpre)]
            rw [hst] at hsnoc
            (repeat (first | (refine i_dst ?_; (first | (refine i_move ?_; refine l_q rfl rfl rfl (q_move rfl) ?_) | (refine i_assign ?_; refine l_q rfl rfl rfl (q_assign rfl) ?_) | (refine i_bin ?_; refine l_q rfl rfl rfl (by (exact q_add rfl rfl (by (exact wr_i64 (by omega))))) ?_))) | refine c_region ?_ | refine l_nil ?_ | (refine i_q ?_; (first | refine d_then ?_ | refine t_then ?_ | refine t_block ?_)) | refine c_skip ?_ | (refine i_cond ?_; (refine c_cf rfl (by (exact decide_eq_false (by omega))) ?_))))
            refine k_again (i + 1, upd g i (g i + 1), .slice Ad (doneM ls ev f i).length cd) ⟨by dsimp only; omega, upd_next hg (by rw [countM, hst, hgi])⟩ (by dsimp only; omega) ?_ (fun w h => ?_)
            · exact (by first | ((repeat (first | exact trivial | exact rfl | apply Sub.cons | exact look_int rfl (by omega) | exact look_int rfl (by simp) | exact look_int rfl (by simp; omega))); done) | fail)
            · dsimp only
              rw [hsnoc, if_neg (by simp), List.append_nil (doneM ls ev f i)]
              exact h
        · have hst : fireStep ev ls[i]? (f i) = (f i, false) := by rw [hl, fireStep, hon, if_pos rfl, if_neg hev2]
          rw [hst] at hsnoc
          (repeat (first | (refine i_dst ?_; (first | (refine i_move ?_; refine l_q rfl rfl rfl (q_move rfl) ?_) | (refine i_assign ?_; refine l_q rfl rfl rfl (q_assign rfl) ?_) | (refine i_load ?_; refine l_q rfl rfl rfl (by (exact q_ldc tab rfl rfl rfl (by assumption))) ?_) | (refine i_bin ?_; refine l_q rfl rfl rfl (by (first | exact q_lss rfl rfl | exact q_neq rfl rfl | exact q_geq rfl rfl | exact q_add rfl rfl (by (exact wr_i64 (by omega))))) ?_) | (refine i_blt ?_; refine l_q rfl rfl rfl (by (exact q_len tab rfl rfl)) ?_) | (refine i_ix ?_; refine l_q rfl rfl rfl (by (exact q_indexAddr tab rfl rfl rfl rfl (by omega))) ?_) | (refine l_q rfl rfl rfl (by (first | (apply iq_fld; (exact q_fieldAddr tab rfl rfl rfl rfl rfl rfl rfl)) | exact q_not rfl | exact q_pick_f rfl rfl)) ?_))) | refine d_seq ?_ | refine c_region ?_ | refine l_nil ?_ | refine c_block ?_ | (refine i_q ?_; (first | refine d_then ?_ | refine t_then ?_ | refine d_then_exit ?_ | refine t_block_eq rfl ?_)) | refine c_skip ?_ | refine c_exit ?_ | (refine i_guard ?_; (first | refine l_gt rfl rfl rfl ?_ | (refine l_gtd rfl rfl rfl (by ((simp; omega))) ?_))) | (refine i_cond ?_; (first | refine c_ct rfl (by (exact decide_eq_true (by omega))) ?_ | refine c_cf rfl (by (rfl)) ?_))))
          refine k_again (i + 1, g, .slice Ad (doneM ls ev f i).length cd) ⟨by dsimp only; omega, fun k hk => ?_⟩ (by dsimp only; omega) ?_ (fun w h => ?_)
          · dsimp only
            by_cases e : k = i
            · subst e
              rw [hgi, if_pos (by omega), countM, hst]
            · rw [hg k hk]
              by_cases q : k < i
              · rw [if_pos q, if_pos (by omega)]
              · rw [if_neg q, if_neg (by omega)]
          · exact (by first | ((repeat (first | exact trivial | exact rfl | apply Sub.cons | exact look_int rfl (by omega) | exact look_int rfl (by simp) | exact look_int rfl (by simp; omega))); done) | fail)
          · dsimp only
            rw [hsnoc, if_neg (by simp), List.append_nil (doneM ls ev f i)]
            exact h
    · have hst : fireStep ev ls[i]? (f i) = (0, false) := by rw [List.getElem?_eq_none (by omega), fireStep]
      rw [hst] at hsnoc
      (repeat (first | (refine i_dst ?_; (first | (refine i_move ?_; refine l_q rfl rfl rfl (q_move rfl) ?_) | (refine i_assign ?_; refine l_q rfl rfl rfl (q_assign rfl) ?_) | (refine i_bin ?_; refine l_q rfl rfl rfl (by (first | exact q_lss rfl rfl | exact q_geq rfl rfl | exact q_add rfl rfl (by (exact wr_i64 (by omega))))) ?_) | (refine i_blt ?_; refine l_q rfl rfl rfl (by (exact q_len tab rfl rfl)) ?_) | (refine i_ix ?_; refine l_q rfl rfl rfl (by (exact q_indexAddrA1 tab rfl rfl rfl rfl (by omega))) ?_) | (refine l_q rfl rfl rfl (by (first | (apply iq_fld; (exact q_fieldAddr tab rfl rfl rfl rfl rfl rfl rfl)) | (apply iq_nck; (exact q_nilck rfl)) | exact q_pick_t rfl rfl)) ?_))) | refine d_seq ?_ | refine c_region ?_ | refine l_nil ?_ | refine c_block ?_ | (refine i_q ?_; (first | refine d_then ?_ | refine t_then ?_ | refine d_then_exit ?_ | refine t_block_eq rfl ?_)) | refine c_skip ?_ | refine c_exit ?_ | (refine i_guard ?_; (first | refine l_gf rfl rfl rfl rfl rfl rfl ?_ | (refine l_gfd rfl rfl rfl (by ((simp; omega))) rfl rfl ?_))) | (refine i_store ?_; ((refine l_setI tab rfl rfl rfl rfl (by first | ((repeat (first | exact Upd.head | apply Upd.tail)); done) | fail) (by (omega)) ?_))) | (refine i_cond ?_; (refine c_ct rfl (by (first | rfl | exact decide_eq_true (by omega))) ?_))))
      refine k_again (i + 1, upd g i 0, .slice Ad (doneM ls ev f i).length cd) ⟨by dsimp only; omega, upd_next hg (by rw [countM, hst])⟩ (by dsimp only; omega) ?_ (fun w h => ?_)
      · exact (by first | ((repeat (first | exact trivial | exact rfl | apply Sub.cons | exact look_int rfl (by omega) | exact look_int rfl (by simp) | exact look_int rfl (by simp; omega))); done) | fail)
      · dsimp only
        rw [hsnoc, if_neg (by simp), List.append_nil (doneM ls ev f i), ← cl_set g h4 0]
        rw [ei] at h
        exact h
  · obtain rfl : i = 4 := by omega
    obtain ⟨d, hd⟩ : ∃ d, d = doneM ls ev f 4 := ⟨_, rfl⟩
    have hdm : ∀ x ∈ d, x < n := fun x hx => by rw [hd] at hx; have := (doneM_lt hx).2; omega
    rw [← hd] at hd1 hdl ⊢
    have hbl := bucketM_len (priM ls) d hp256
    (repeat (first | (refine i_dst ?_; (first | (refine i_move ?_; refine l_q rfl rfl rfl (q_move rfl) ?_) | (refine i_assign ?_; refine l_q rfl rfl rfl (q_assign rfl) ?_) | (refine i_bin ?_; refine l_q rfl rfl rfl (by (exact q_lss rfl rfl)) ?_))) | refine d_seq ?_ | refine c_region ?_ | refine l_nil ?_ | refine c_block ?_ | (refine i_q ?_; (first | refine d_then ?_ | refine d_then_exit ?_ | refine t_then_exit ?_ | refine t_block_eq rfl ?_)) | refine c_exit ?_ | (refine i_cond ?_; (refine c_cf rfl (by (rfl)) ?_))))
    refine d_loop (T := Nat × List Nat × Value) [2, 7] (fun t => [(10, .int .i64 ((t.1 : Int) - 1)), (9, t.2.2)]) [blk p (cl g) rfT, row 3 1 (.slice Ad d.length cd) d.length (iv d)] (fun t => [row 3 1 t.2.2 t.2.1.length (iv t.2.1)]) (fun t => t.1 ≤ 256 ∧ t.2.1 ++ bucketM (priM ls) d t.1 = bucketM (priM ls) d 256) (fun t => t.1) (256, [], .slice none 0 0) (by first | ((repeat (first | exact Pick.nil | exact rfl | apply Pick.cons)); done) | fail) ⟨Nat.le_refl _, rfl⟩ (by first | ((repeat (first | exact trivial | exact rfl | apply Sub.cons | exact look_int rfl (by omega) | exact look_int rfl (by simp) | exact look_int rfl (by simp; omega))); done) | fail) (fun w h => (st_nil h 3 1).psub (by first | ((repeat (first | exact PSub.nil | exact Ext.head | apply Ext.tail | apply PSub.cons)); done) | fail)) ?_
    rintro ⟨b, out, ov⟩ ⟨hb, hout⟩
    dsimp only at hb hout ⊢
    refine c_fact (p := ∃ Ao co, ov = .slice Ao out.length co ∧ out.length ≤ co ∧ co ≤ maxLen) (fun w h => ?_) ?_
    · obtain ⟨Ao, co, e1, e2, e3, -⟩ := row_slice (h.get (i := 0) rfl)
      exact ⟨Ao, co, e1, e2, e3⟩
    rintro ⟨Ao, co, rfl, ho1, ho2⟩
    have hol : out.length ≤ 4 := by
      have := congrArg List.length hout
      rw [List.length_append] at this
      omega
    rcases b with _ | b
    · have hfin : out = eventM ls ev f := by
        rw [bucketM, List.append_nil] at hout
        rw [hout, bucketM_sort hp256, hd]
        rfl
      (repeat (first | (refine i_dst ?_; (first | (refine i_move ?_; refine l_q rfl rfl rfl (q_move rfl) ?_) | (refine i_assign ?_; refine l_q rfl rfl rfl (q_assign rfl) ?_) | (refine i_bin ?_; refine l_q rfl rfl rfl (by (exact q_geq rfl rfl)) ?_))) | refine d_seq ?_ | refine c_region ?_ | refine l_nil ?_ | (refine i_q ?_; (first | refine d_then ?_ | refine d_then_exit ?_ | refine t_then_exit ?_ | refine t_block_eq rfl ?_)) | refine c_exit ?_ | refine c_ret ?_ | (refine i_cond ?_; (refine c_cf rfl (by (rfl)) ?_))))
      subst hS
      rw [hfin]
      exact t_hp (hp' := [fireA rfT p g, row 3 1 (.slice Ao (eventM ls ev f).length co) (eventM ls ev f).length (iv (eventM ls ev f))]) (fun w h => h.psub (by first | ((repeat (first | exact PSub.nil | exact Ext.head | apply Ext.tail | apply PSub.cons)); done) | fail)) (t_ret1 Try.results40 rfl ⟨g, Ao, co, rfl, rfl, fire_all hg⟩)
    · rw [show (((b + 1 : Nat) : Int) - 1) = (b : Int) by omega]
      (repeat (first | (refine i_dst ?_; (first | (refine i_move ?_; refine l_q rfl rfl rfl (q_move rfl) ?_) | (refine i_assign ?_; refine l_q rfl rfl rfl (q_assign rfl) ?_) | (refine i_bin ?_; refine l_q rfl rfl rfl (by (exact q_geq rfl rfl)) ?_))) | refine d_seq ?_ | refine c_region ?_ | refine l_nil ?_ | refine c_block ?_ | (refine i_q ?_; (refine d_then ?_)) | refine c_skip ?_ | (refine i_cond ?_; (refine c_ct rfl (by (rfl)) ?_))))
      refine d_loop (T := Nat × Value) [2, 7, 10] (fun t => [(11, .int .i64 t.1), (9, t.2)]) [blk p (cl g) rfT, row 3 1 (.slice Ad d.length cd) d.length (iv d)] (fun t => [row 3 1 t.2 (out ++ (d.take t.1).filter (fun x => decide (priM ls x = b))).length (iv (out ++ (d.take t.1).filter (fun x => decide (priM ls x = b))))]) (fun t => t.1 ≤ d.length) (fun t => d.length - t.1) (0, .slice Ao out.length co) (by first | ((repeat (first | exact Pick.nil | exact rfl | apply Pick.cons)); done) | fail) (Nat.zero_le _) (by first | ((repeat (first | exact trivial | exact rfl | apply Sub.cons | exact look_int rfl (by omega) | exact look_int rfl (by simp) | exact look_int rfl (by simp; omega))); done) | fail) (fun w h => by rw [List.take_zero, List.filter_nil, List.append_nil]; exact h.psub (by first | ((repeat (first | exact PSub.nil | exact Ext.head | apply Ext.tail | apply PSub.cons)); done) | fail)) ?_
      rintro ⟨k, ov⟩ hk
      dsimp only at hk ⊢
      obtain ⟨o2, ho2'⟩ : ∃ o2, o2 = out ++ (d.take k).filter (fun x => decide (priM ls x = b)) := ⟨_, rfl⟩
      have ho2l : o2.length ≤ 8 := by
        have := List.length_filter_le (fun x => decide (priM ls x = b)) (d.take k)
        rw [List.length_take] at this
        rw [ho2', List.length_append]
        omega
      rw [← ho2']
      refine c_fact (p := ∃ Ap cp, ov = .slice Ap o2.length cp ∧ o2.length ≤ cp ∧ cp ≤ maxLen) (fun w h => ?_) ?_
      · obtain ⟨Ao, co, e1, e2, e3, -⟩ := row_slice (h.get (i := 0) rfl)
        exact ⟨Ao, co, e1, e2, e3⟩
      rintro ⟨Ap, cp, rfl, hp1, hp2⟩
      by_cases hkl : k < d.length
      · obtain ⟨x, hx⟩ : ∃ x, d[k]? = some x := ⟨_, List.getElem?_eq_getElem hkl⟩
        have hxn := hdm x (List.mem_of_getElem? hx)
        have hxv := iv_get hx
        have hft := filter_take (p := fun x => decide (priM ls x = b)) hx
        obtain ⟨l, hl⟩ : ∃ l, ls[x]? = some l := ⟨_, List.getElem?_eq_getElem (by omega)⟩
        obtain ⟨bA, oA, r, rfl, hrl, hL, hcell⟩ := hls.get (by omega) hl
        obtain ⟨⟨At, nt, ct, rfl, -⟩, -, hl2, hl3, hl4⟩ := hL
        have hc5 : ∀ hp w', St S0 w hp w' → w'.cell? ⟨bA, oA + (x : Int).toNat * 8 + 5, none⟩ = some (.int .u8 l.pri) := fun hp w' h => (hcell hp w' h) 5 _ rfl
        have hprx : priM ls x = l.pri := by rw [priM, hl]
        clear hcell
        by_cases hxb : l.pri = b
        · have hft' : out ++ (d.take (k + 1)).filter (fun x => decide (priM ls x = b)) = o2 ++ [x] := by
            rw [hft, if_pos (decide_eq_true (by rw [hprx]; exact hxb)), ← List.append_assoc, ← ho2']
          (repeat (first | (refine i_dst ?_; (first | (refine i_move ?_; refine l_q rfl rfl rfl (q_move rfl) ?_) | (refine i_load ?_; refine l_q rfl rfl rfl (by (first | (exact q_ldS tab rfl rfl rfl (by ((exact fun w h => row_src (h.mem (by first | ((repeat (first | exact List.Mem.head _ | apply List.Mem.tail)); done) | fail))))) (by (assumption))) | exact q_ldc tab rfl rfl rfl (by assumption))) ?_) | (refine i_bin ?_; refine l_q rfl rfl rfl (by (first | exact q_lss rfl rfl | exact q_eql rfl rfl)) ?_) | (refine i_blt ?_; refine l_q rfl rfl rfl (by (exact q_len tab rfl rfl)) ?_) | (refine i_ix ?_; refine l_q rfl rfl rfl (by (first | exact q_indexAddr tab rfl rfl rfl rfl (by omega) | (exact q_ixS1 tab rfl rfl rfl rfl (by ((exact fun w h => row_src (h.mem (by first | ((repeat (first | exact List.Mem.head _ | apply List.Mem.tail)); done) | fail))))) (by first | (with_reducible exact Int.toNat_natCast _) | (with_reducible exact Int.toNat_zero) | (with_reducible exact Int.toNat_one) | rfl) (by (omega)) (by (omega))))) ?_) | (refine i_bldS ?_; refine l_bldS tab rfl rfl rfl rfl (by first | exact CellsOf.agg | exact CellsOf.one rfl) (by first | ((repeat (first | exact RepR.zero | exact AppR.nil | apply RepR.succ | apply AppR.cons)); done) | fail) (by first | ((repeat (first | exact FillR.nil | exact LSets.nil | exact LSet.zero | exact CellsOf.agg | exact rfl | exact CellsOf.one rfl | apply FillR.cons | apply LSets.cons | apply LSet.succ)); done) | fail) (fun w => by kernel_rfl) (fun _ => ?_)) | (refine l_q rfl rfl rfl (by (first | (apply iq_fld; (exact q_fieldAddr tab rfl rfl rfl rfl rfl rfl rfl)) | (apply iq_cv; (exact q_conv tab rfl rfl rfl (by (exact wr_i64 (by omega))))))) ?_))) | refine d_seq ?_ | refine c_region ?_ | refine l_nil ?_ | refine c_block ?_ | (refine i_q ?_; (refine d_then ?_)) | refine c_skip ?_ | (refine i_cond ?_; (refine c_ct rfl (by (exact decide_eq_true (by omega))) ?_))))
          rename_i g8
          (refine l_app tab rfl rfl rfl rowII (by first | ((repeat (first | exact Ext.head | apply Ext.tail)); done) | fail) (news := [.int .i64 (x : Int)]) (fun w h => SrcAt.blk (h.mem (X := blk g8 _ _) (by first | ((repeat (first | exact List.Mem.head _ | apply List.Mem.tail)); done) | fail)) rfl) (by simp [Value.oneCell']) (by omega) (by omega) (fun A6 c6 hA1 hA2 => ?_))
          (repeat (first | (refine i_dst ?_; (first | (refine i_move ?_; refine l_q rfl rfl rfl (q_move rfl) ?_) | (refine i_assign ?_; refine l_q rfl rfl rfl (q_assign rfl) ?_) | (refine i_bin ?_; refine l_q rfl rfl rfl (by (exact q_add rfl rfl (by (exact wr_i64 (by omega))))) ?_))) | refine c_region ?_ | refine l_nil ?_ | (refine i_q ?_; (first | refine d_then ?_ | refine t_then ?_ | refine t_block ?_))))
          refine k_again (k + 1, .slice A6 (o2.length + 1) c6) (by dsimp only; omega) (by dsimp only; omega) (by first | ((repeat (first | exact trivial | exact rfl | apply Sub.cons | exact look_int rfl (by omega) | exact look_int rfl (by simp) | exact look_int rfl (by simp; omega))); done) | fail) (fun w h => ?_)
          dsimp only
          rw [hft', List.length_append, iv_append]
          exact h.psub (by first | ((repeat (first | exact PSub.nil | exact Ext.head | apply Ext.tail | apply PSub.cons)); done) | fail)
        · have hft' : out ++ (d.take (k + 1)).filter (fun x => decide (priM ls x = b)) = o2 := by
            rw [hft, if_neg (by rw [hprx]; simpa using hxb), List.append_nil, ← ho2']
          (repeat (first | (refine i_dst ?_; (first | (refine i_move ?_; refine l_q rfl rfl rfl (q_move rfl) ?_) | (refine i_assign ?_; refine l_q rfl rfl rfl (q_assign rfl) ?_) | (refine i_load ?_; refine l_q rfl rfl rfl (by (first | (exact q_ldS tab rfl rfl rfl (by ((exact fun w h => row_src (h.mem (by first | ((repeat (first | exact List.Mem.head _ | apply List.Mem.tail)); done) | fail))))) (by (assumption))) | exact q_ldc tab rfl rfl rfl (by assumption))) ?_) | (refine i_bin ?_; refine l_q rfl rfl rfl (by (first | exact q_lss rfl rfl | exact q_eql rfl rfl | exact q_add rfl rfl (by (exact wr_i64 (by omega))))) ?_) | (refine i_blt ?_; refine l_q rfl rfl rfl (by (exact q_len tab rfl rfl)) ?_) | (refine i_ix ?_; refine l_q rfl rfl rfl (by (first | exact q_indexAddr tab rfl rfl rfl rfl (by omega) | (exact q_ixS1 tab rfl rfl rfl rfl (by ((exact fun w h => row_src (h.mem (by first | ((repeat (first | exact List.Mem.head _ | apply List.Mem.tail)); done) | fail))))) (by first | (with_reducible exact Int.toNat_natCast _) | (with_reducible exact Int.toNat_zero) | (with_reducible exact Int.toNat_one) | rfl) (by (omega)) (by (omega))))) ?_) | (refine l_q rfl rfl rfl (by (first | (apply iq_fld; (exact q_fieldAddr tab rfl rfl rfl rfl rfl rfl rfl)) | (apply iq_cv; (exact q_conv tab rfl rfl rfl (by (exact wr_i64 (by omega))))))) ?_))) | refine d_seq ?_ | refine c_region ?_ | refine l_nil ?_ | refine c_block ?_ | (refine i_q ?_; (first | refine d_then ?_ | refine t_then ?_ | refine t_block ?_)) | refine c_skip ?_ | (refine i_cond ?_; (first | refine c_ct rfl (by (exact decide_eq_true (by omega))) ?_ | refine c_cf rfl (by (exact decide_eq_false (by omega))) ?_))))
          refine k_again (k + 1, .slice Ap o2.length cp) (by dsimp only; omega) (by dsimp only; omega) (by first | ((repeat (first | exact trivial | exact rfl | apply Sub.cons | exact look_int rfl (by omega) | exact look_int rfl (by simp) | exact look_int rfl (by simp; omega))); done) | fail) (fun w h => ?_)
          dsimp only
          rw [hft']
          exact h.psub (by first | ((repeat (first | exact PSub.nil | exact Ext.head | apply Ext.tail | apply PSub.cons)); done) | fail)
      · obtain rfl : k = d.length := by omega
        (repeat (first | (refine i_dst ?_; (first | (refine i_move ?_; refine l_q rfl rfl rfl (q_move rfl) ?_) | (refine i_assign ?_; refine l_q rfl rfl rfl (q_assign rfl) ?_) | (refine i_bin ?_; refine l_q rfl rfl rfl (by (first | exact q_lss rfl rfl | exact q_sub rfl rfl (by (exact wr_i64 (by omega))))) ?_) | (refine i_blt ?_; refine l_q rfl rfl rfl (by (exact q_len tab rfl rfl)) ?_))) | refine d_seq ?_ | refine c_region ?_ | refine l_nil ?_ | (refine i_q ?_; (first | refine d_then ?_ | refine t_then ?_ | refine d_then_exit ?_ | refine t_then_exit ?_ | refine t_block ?_ | refine t_block_eq rfl ?_)) | refine c_exit ?_ | (refine i_cond ?_; ((refine c_cf rfl (by (((first | (simp; done) | fail)))) ?_)))))
        refine k_again (b, o2, .slice Ap o2.length cp) ⟨by dsimp only; omega, ?_⟩ (by dsimp only; omega) (by first | ((repeat (first | exact trivial | exact rfl | apply Sub.cons | exact look_int rfl (by omega) | exact look_int rfl (by simp) | exact look_int rfl (by simp; omega))); done) | fail) (fun w h => h.psub (by first | ((repeat (first | exact PSub.nil | exact Ext.head | apply Ext.tail | apply PSub.cons)); done) | fail))
        dsimp only
        rw [List.take_length] at ho2'
        rw [ho2', List.append_assoc]
        exact hout
end Go.Proofs.Ytkeekkdaielipaa

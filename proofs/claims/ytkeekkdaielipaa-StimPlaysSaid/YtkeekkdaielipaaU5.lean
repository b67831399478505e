/-
  Layer 12: Event, walked.
-/
import Derived.Test.YtkeekkdaielipaaU4
set_option linter.unusedVariables false
set_option maxRecDepth 100000
namespace Go.Proofs.Ytkeekkdaielipaa
open Go.RowKit
attribute [local irreducible] TL TC TQ TK TO Qt TA

def EventOut (t : TypeId) (p : Nat) (ls : List ListI) (ev : Nat) (f : Nat → Nat) (v : Value) (B : List Asn) : Prop := ∃ (f' : Nat → Nat) (A : Option Addr) (c : Nat), v = .slice A (eventM ls ev f).length c ∧ B = [fireA t p f', row 3 1 (.slice A (eventM ls ev f).length c) (eventM ls ev f).length (iv (eventM ls ev f))] ∧ ∀ k, k < 4 → f' k = countM ls ev f k
theorem fire_all {ls : List ListI} {ev : Nat} {f g : Nat → Nat} (hg : ∀ k, k < 4 → g k = if k < 4 then countM ls ev f k else f k) : ∀ k, k < 4 → g k = countM ls ev f k := fun k hk => by rw [hg k hk, if_pos hk]
theorem upd_next {ls : List ListI} {ev : Nat} {f g : Nat → Nat} {i v : Nat} (hg : ∀ k, k < 4 → g k = if k < i then countM ls ev f k else f k) (hv : v = countM ls ev f i) : ∀ k, k < 4 → upd g i v k = if k < i + 1 then countM ls ev f k else f k := fun k hk => by
  rw [upd]
  by_cases e : k = i
  · subst e
    rw [if_pos rfl, if_pos (by omega), hv]
  · rw [if_neg e, hg k hk]
    by_cases q : k < i
    · rw [if_pos q, if_pos (by omega)]
    · rw [if_neg q, if_neg (by omega)]
attribute [local irreducible] blk row bytesA starL memA segA roB


set_option maxHeartbeats 8000000 in
theorem fevent_spec {p : Nat} {f : Nat → Nat} {w : World} (hA : Hold [fireA fT p f] w) (ev : Nat) (hev : ev ≤ 255) (A : Option Addr) (n c : Nat) (ls : List ListI) (hls : InS (fps [fireA fT p f]) w 8 (InList (fps [fireA fT p f]) w) A n ls) (hnc : n ≤ c) (hcm : c ≤ maxLen) (hf : ∀ k, k < 4 → f k ≤ 1000000) :
    Calls Try.prog 28 #[.pointer (some ⟨p, 0, none⟩), .int .u8 ev, .slice A n c] w (Ret w [fireA fT p f] (EventOut fT p ls ev f)) := by
  refine enter (vs := [.pointer (some ⟨p, 0, none⟩), .int .u8 ev, .slice A n c]) Try.func28 rfl Try.ntmps28 rfl hA ?_
  generalize hS : fps [fireA fT p f] = S0 at hls
  have hlen := hls.len
  have hmx : maxLen = 2 ^ 63 - 1 := rfl
  (repeat (first | (refine i_dst ?_; (first | (refine i_move ?_; refine l_q rfl rfl rfl (q_move rfl) ?_) | (refine i_assign ?_; refine l_q rfl rfl rfl (q_assign rfl) ?_) | (refine i_bin ?_; refine l_q rfl rfl rfl (by (exact q_eqnil tab rfl rfl rfl)) ?_) | (refine i_box ?_; (refine l_box1 rfl rfl rfl (fun _ => ?_))))) | refine d_seq ?_ | refine c_region ?_ | refine l_nil ?_ | refine c_block ?_ | (refine i_q ?_; (refine d_then ?_)) | refine c_skip ?_ | (refine i_cond ?_; (refine c_cf rfl (by (rfl)) ?_))))
  rename_i b5
  refine d_loop (T := Nat × (Nat → Nat) × Value) [0, 1, 5] (fun t => [(11, .int .i64 t.1), (7, t.2.2)]) [blk b5 [.slice A n c] 35] (fun t => [blk p (cl t.2.1) fT, row 3 1 t.2.2 (doneM ls ev f t.1).length (iv (doneM ls ev f t.1))]) (fun t => t.1 ≤ 4 ∧ ∀ k, k < 4 → t.2.1 k = if k < t.1 then countM ls ev f k else f k) (fun t => 4 - t.1) (0, f, .slice none 0 0) (by first | ((repeat (first | exact Pick.nil | exact rfl | apply Pick.cons)); done) | fail) ⟨Nat.zero_le _, fun k _ => rfl⟩ (by first | ((repeat (first | exact trivial | exact rfl | apply Sub.cons | exact look_int rfl (by omega) | exact look_int rfl (by simp) | exact look_int rfl (by simp; omega))); done) | fail) (fun w h => (st_nil h 3 1).psub (by first | ((repeat (first | exact PSub.nil | exact Ext.head | apply Ext.tail | apply PSub.cons)); done) | fail)) ?_
  rintro ⟨i, g, dv⟩ ⟨hi, hg⟩
  dsimp only at hi hg ⊢
  refine c_fact (p := ∃ Ad cd, dv = .slice Ad (doneM ls ev f i).length cd ∧ (doneM ls ev f i).length ≤ cd ∧ cd ≤ maxLen) (fun w h => ?_) ?_
  · obtain ⟨Ao, co, e1, e2, e3, -⟩ := row_slice (h.get (i := 1) rfl)
    exact ⟨Ao, co, e1, e2, e3⟩
  rintro ⟨Ad, cd, rfl, hd1, hd2⟩
  have hdl := doneM_len ls ev f i
  by_cases h4 : i < 4
  · have hgi : g i = f i := by rw [hg i h4, if_neg (by omega)]
    have hgb : g i ≤ 1000000 := by rw [hgi]; exact hf i h4
    have hsnoc := doneM_snoc ls ev f i
    have ho : 0 + 0 + (i : Int).toNat < (cl g).length := by simp [cl]; omega
    have ei : 0 + 0 + (i : Int).toNat = i := by omega
    -- a list that is none, or does not run
    by_cases hin : i < n
    · obtain ⟨l, hl⟩ : ∃ l, ls[i]? = some l := ⟨_, List.getElem?_eq_getElem (by omega)⟩
      obtain ⟨bA, oA, r, rfl, hrl, hL, hcell⟩ := hls.get (by omega) hl
      obtain ⟨⟨At, nt, ct, rfl, -⟩, -, hl2, hl3, hl4⟩ := hL
      have hc3 : ∀ hp w', St S0 w hp w' → w'.cell? ⟨bA, oA + (i : Int).toNat * 8 + 3, none⟩ = some (.int .u8 l.ev) := fun hp w' h => (hcell hp w' h) 3 _ rfl
      have hc4 : ∀ hp w', St S0 w hp w' → w'.cell? ⟨bA, oA + (i : Int).toNat * 8 + 4, none⟩ = some (.int .u8 l.pre) := fun hp w' h => (hcell hp w' h) 4 _ rfl
      cases hon : l.on with
      | false =>
        have hc6 : ∀ hp w', St S0 w hp w' → w'.cell? ⟨bA, oA + (i : Int).toNat * 8 + 6, none⟩ = some (.bool false) := fun hp w' h => by have := (hcell hp w' h) 6 _ rfl; rw [hon] at this; exact this
        have hst : fireStep ev ls[i]? (f i) = (0, false) := by rw [hl, fireStep, hon]; rfl
        rw [hst] at hsnoc
        clear hcell
        (repeat (first | (refine i_dst ?_; (first | (refine i_move ?_; refine l_q rfl rfl rfl (q_move rfl) ?_) | (refine i_assign ?_; refine l_q rfl rfl rfl (q_assign rfl) ?_) | (refine i_load ?_; refine l_q rfl rfl rfl (by (first | (exact q_ld1 tab rfl rfl rfl (by first | ((repeat (first | exact List.Mem.head _ | apply List.Mem.tail)); done) | fail) (by (rfl))) | exact q_ldc tab rfl rfl rfl (by assumption))) ?_) | (refine i_bin ?_; refine l_q rfl rfl rfl (by (first | exact q_lss rfl rfl | exact q_geq rfl rfl | exact q_add rfl rfl (by (exact wr_i64 (by omega))))) ?_) | (refine i_blt ?_; refine l_q rfl rfl rfl (by (exact q_len tab rfl rfl)) ?_) | (refine i_ix ?_; refine l_q rfl rfl rfl (by (first | exact q_indexAddrA1 tab rfl rfl rfl rfl (by omega) | exact q_indexAddr tab rfl rfl rfl rfl (by omega))) ?_) | (refine l_q rfl rfl rfl (by (first | (apply iq_fld; (exact q_fieldAddr tab rfl rfl rfl rfl rfl rfl rfl)) | (apply iq_nck; (exact q_nilck rfl)) | exact q_not rfl | exact q_pick_f rfl rfl)) ?_))) | refine d_seq ?_ | refine c_region ?_ | refine l_nil ?_ | refine c_block ?_ | (refine i_q ?_; (first | refine d_then ?_ | refine t_then ?_ | refine t_block ?_)) | refine c_skip ?_ | (refine i_guard ?_; (first | refine l_gt rfl rfl rfl ?_ | (refine l_gtd rfl rfl rfl (by ((simp; omega))) ?_))) | (refine i_store ?_; ((refine l_setI tab rfl rfl rfl rfl (by first | ((repeat (first | exact Upd.head | apply Upd.tail)); done) | fail) (by (omega)) ?_))) | (refine i_cond ?_; (refine c_ct rfl (by (first | rfl | exact decide_eq_true (by omega))) ?_))))
        refine k_again (i + 1, upd g i 0, .slice Ad (doneM ls ev f i).length cd) ⟨by dsimp only; omega, upd_next hg (by rw [countM, hst])⟩ (by dsimp only; omega) ?_ (fun w h => ?_)
        · exact (by first | ((repeat (first | exact trivial | exact rfl | apply Sub.cons | exact look_int rfl (by omega) | exact look_int rfl (by simp) | exact look_int rfl (by simp; omega))); done) | fail)
        · dsimp only
          rw [hsnoc, if_neg (by simp), List.append_nil, ← cl_set g h4 0]
          rw [ei] at h
          exact h
      | true =>
        have hc6 : ∀ hp w', St S0 w hp w' → w'.cell? ⟨bA, oA + (i : Int).toNat * 8 + 6, none⟩ = some (.bool true) := fun hp w' h => by have := (hcell hp w' h) 6 _ rfl; rw [hon] at this; exact this
        clear hcell
        by_cases hev2 : l.ev = ev
        · have hv1 : (cl g)[0 + 0 + (i : Int).toNat]? = some (.int .i64 (g i)) := by rw [ei]; exact cl_get g h4
          have hv2 : (cl (upd g i (g i + 1)))[0 + 0 + (i : Int).toNat]? = some (.int .i64 ((g i + 1 : Nat) : Int)) := by rw [ei, cl_get _ h4, upd, if_pos rfl]
          have ho2 : 0 + 0 + (i : Int).toNat < (cl (upd g i (g i + 1))).length := by simp [cl]; omega
          (repeat (first | (refine i_dst ?_; (first | (refine i_move ?_; refine l_q rfl rfl rfl (q_move rfl) ?_) | (refine i_assign ?_; refine l_q rfl rfl rfl (q_assign rfl) ?_) | (refine i_load ?_; refine l_q rfl rfl rfl (by (first | (exact q_ld1 tab rfl rfl rfl (by first | ((repeat (first | exact List.Mem.head _ | apply List.Mem.tail)); done) | fail) (by (rfl))) | exact q_ldc tab rfl rfl rfl (by assumption))) ?_) | (refine i_bin ?_; refine l_q rfl rfl rfl (by (first | exact q_lss rfl rfl | exact q_eql rfl rfl | exact q_geq rfl rfl)) ?_) | (refine i_blt ?_; refine l_q rfl rfl rfl (by (exact q_len tab rfl rfl)) ?_) | (refine i_ix ?_; refine l_q rfl rfl rfl (by (exact q_indexAddr tab rfl rfl rfl rfl (by omega))) ?_) | (refine l_q rfl rfl rfl (by (first | (apply iq_fld; (exact q_fieldAddr tab rfl rfl rfl rfl rfl rfl rfl)) | exact q_not rfl | exact q_pick_f rfl rfl)) ?_))) | refine d_seq ?_ | refine c_region ?_ | refine l_nil ?_ | refine c_block ?_ | (refine i_q ?_; (refine d_then ?_)) | refine c_skip ?_ | (refine i_guard ?_; (first | refine l_gt rfl rfl rfl ?_ | (refine l_gtd rfl rfl rfl (by ((simp; omega))) ?_))) | (refine i_cond ?_; (first | refine c_ct rfl (by (exact decide_eq_true (by omega))) ?_ | refine c_cf rfl (by (rfl)) ?_))))
          (refine a_beginE mixed [blk p (cl g) fT, blk b5 [.slice (some ⟨bA, oA, none⟩) n c] 35] [blk b5 [.slice (some ⟨bA, oA, none⟩) n c] 35] 11 10 rfl (fun w h => h.subl (by first | ((repeat (first | exact SubL.nil | apply SubL.keep | apply SubL.skip)); done) | fail)) (fun w h => h.subl (by first | ((repeat (first | exact SubL.nil | apply SubL.keep | apply SubL.skip)); done) | fail)) ?_)
          ((refine a_q 0 rfl rfl rfl rfl rfl (by decide +kernel) (q_move rfl) ?_; refine a_q 1 rfl rfl rfl rfl rfl (by decide +kernel) (q_move rfl) ?_; refine a_q 2 rfl rfl rfl rfl rfl (by decide +kernel) (by ((apply iq_nck; (exact q_nilck rfl)))) ?_; refine a_q 3 rfl rfl rfl rfl rfl (by decide +kernel) (by ((apply iq_fld; (exact q_fieldAddr tab rfl rfl rfl rfl rfl rfl rfl)))) ?_; refine a_q 4 rfl rfl rfl rfl rfl (by decide +kernel) (by (exact q_indexAddrA1 tab rfl rfl rfl rfl (by omega))) ?_; ((refine a_y 5 rfl rfl rfl rfl rfl (by decide +kernel) (by ((exact q_ld1 tab rfl rfl rfl (by first | ((repeat (first | exact List.Mem.head _ | apply List.Mem.tail)); done) | fail) (by (assumption))))) ?_)); refine a_q 6 rfl rfl rfl rfl rfl (by decide +kernel) (by (exact q_add rfl rfl (by (exact wr_i64 (by omega))))) ?_; refine a_q 7 rfl rfl rfl rfl rfl (by decide +kernel) (by ((apply iq_nck; (exact q_nilck rfl)))) ?_; refine a_q 8 rfl rfl rfl rfl rfl (by decide +kernel) (by ((apply iq_fld; (exact q_fieldAddr tab rfl rfl rfl rfl rfl rfl rfl)))) ?_; refine a_q 9 rfl rfl rfl rfl rfl (by decide +kernel) (by (exact q_indexAddrA1 tab rfl rfl rfl rfl (by omega))) ?_))
          refine a_e 10 rfl (by decide +kernel) rfl (fun K hK => e_setI tab rfl rfl rfl rfl (by first | ((repeat (first | exact Upd.head | apply Upd.tail)); done) | fail) ho (hK _ _ (fun w h => h.subl (by first | ((repeat (first | exact SubL.nil | apply SubL.keep | apply SubL.skip)); done) | fail)) ?_))
          clear hK
          refine a_done (by decide +kernel) ?_
          refine t_hp (hp' := [blk p (cl (upd g i (g i + 1))) fT, row 3 1 (.slice Ad (doneM ls ev f i).length cd) (doneM ls ev f i).length (iv (doneM ls ev f i)), blk b5 [.slice (some ⟨bA, oA, none⟩) n c] 35]) (fun w h => by
            rw [← cl_set g h4 (g i + 1)]
            rw [ei] at h
            exact h) ?_
          (repeat (first | refine d_seq ?_ | (refine i_q ?_; (refine d_then ?_))))
          (refine a_begin mixed _ 13 rfl (fun w h => h) ?_)
          ((refine a_q 0 rfl rfl rfl rfl rfl (by decide +kernel) (q_move rfl) ?_; refine a_q 1 rfl rfl rfl rfl rfl (by decide +kernel) (q_move rfl) ?_; refine a_q 2 rfl rfl rfl rfl rfl (by decide +kernel) (by ((apply iq_nck; (exact q_nilck rfl)))) ?_; refine a_q 3 rfl rfl rfl rfl rfl (by decide +kernel) (by ((apply iq_fld; (exact q_fieldAddr tab rfl rfl rfl rfl rfl rfl rfl)))) ?_; refine a_q 4 rfl rfl rfl rfl rfl (by decide +kernel) (by (exact q_indexAddrA1 tab rfl rfl rfl rfl (by omega))) ?_; ((refine a_q 5 rfl rfl rfl rfl rfl (by decide +kernel) (by ((exact q_ld1 tab rfl rfl rfl (by first | ((repeat (first | exact List.Mem.head _ | apply List.Mem.tail)); done) | fail) (by (assumption))))) ?_)); ((refine a_q 6 rfl rfl rfl rfl rfl (by decide +kernel) (by ((exact q_ld1 tab rfl rfl rfl (by first | ((repeat (first | exact List.Mem.head _ | apply List.Mem.tail)); done) | fail) (by (rfl))))) ?_)); refine a_q 7 rfl rfl rfl rfl rfl (by decide +kernel) (q_move rfl) ?_; refine a_q 8 rfl rfl rfl rfl rfl (by decide +kernel) (by (exact q_indexAddr tab rfl rfl rfl rfl (by omega))) ?_; refine a_q 9 rfl rfl rfl rfl rfl (by decide +kernel) (by ((apply iq_fld; (exact q_fieldAddr tab rfl rfl rfl rfl rfl rfl rfl)))) ?_; (refine a_q 10 rfl rfl rfl rfl rfl (by decide +kernel) (by (exact q_ldc tab rfl rfl rfl (by assumption))) ?_); refine a_q 11 rfl rfl rfl rfl rfl (by decide +kernel) (by ((apply iq_cv; (exact q_conv tab rfl rfl rfl (by (exact wr_i64 (by omega))))))) ?_; refine a_q 12 rfl rfl rfl rfl rfl (by decide +kernel) (by (exact q_geq rfl rfl)) ?_))
          refine a_done (by decide +kernel) ?_
          by_cases hpre : l.pre ≤ g i + 1
          · have hst : fireStep ev ls[i]? (f i) = (0, true) := by rw [hl, fireStep, hon, if_pos rfl, if_pos hev2, if_pos (by rw [← hgi]; exact hpre)]
            rw [hst, if_pos rfl] at hsnoc
            (repeat (first | (refine i_dst ?_; (first | (refine i_move ?_; refine l_q rfl rfl rfl (q_move rfl) ?_) | (refine i_ix ?_; refine l_q rfl rfl rfl (by (exact q_indexAddrA1 tab rfl rfl rfl rfl (by omega))) ?_) | (refine i_bldS ?_; refine l_bldS tab rfl rfl rfl rfl (by first | exact CellsOf.agg | exact CellsOf.one rfl) (by first | ((repeat (first | exact RepR.zero | exact AppR.nil | apply RepR.succ | apply AppR.cons)); done) | fail) (by first | ((repeat (first | exact FillR.nil | exact LSets.nil | exact LSet.zero | exact CellsOf.agg | exact rfl | exact CellsOf.one rfl | apply FillR.cons | apply LSets.cons | apply LSet.succ)); done) | fail) (fun w => by kernel_rfl) (fun _ => ?_)) | (refine l_q rfl rfl rfl (by (first | (apply iq_fld; (exact q_fieldAddr tab rfl rfl rfl rfl rfl rfl rfl)) | (apply iq_nck; (exact q_nilck rfl)))) ?_))) | refine d_seq ?_ | refine c_region ?_ | refine l_nil ?_ | (refine i_q ?_; (refine d_then ?_)) | (refine i_store ?_; ((refine l_setI tab rfl rfl rfl rfl (by first | ((repeat (first | exact Upd.head | apply Upd.tail)); done) | fail) (by (omega)) ?_))) | (refine i_cond ?_; (refine c_ct rfl (by (exact decide_eq_true (by omega))) ?_))))
            rename_i g7
            (refine l_app tab rfl rfl rfl rowII (by first | ((repeat (first | exact Ext.head | apply Ext.tail)); done) | fail) (news := [.int .i64 (i : Int)]) (fun w h => SrcAt.blk (h.mem (X := blk g7 _ _) (by first | ((repeat (first | exact List.Mem.head _ | apply List.Mem.tail)); done) | fail)) rfl) (by simp [Value.oneCell']) (by omega) (by omega) (fun A6 c6 hA1 hA2 => ?_))
            (repeat (first | (refine i_dst ?_; (first | (refine i_move ?_; refine l_q rfl rfl rfl (q_move rfl) ?_) | (refine i_assign ?_; refine l_q rfl rfl rfl (q_assign rfl) ?_) | (refine i_bin ?_; refine l_q rfl rfl rfl (by (exact q_add rfl rfl (by (exact wr_i64 (by omega))))) ?_))) | refine c_region ?_ | refine l_nil ?_ | (refine i_q ?_; (first | refine d_then ?_ | refine t_then ?_ | refine t_block ?_))))
            refine k_again (i + 1, upd g i 0, .slice A6 ((doneM ls ev f i).length + 1) c6) ⟨by dsimp only; omega, upd_next hg (by rw [countM, hst])⟩ (by dsimp only; omega) ?_ (fun w h => ?_)
            · exact (by first | ((repeat (first | exact trivial | exact rfl | apply Sub.cons | exact look_int rfl (by omega) | exact look_int rfl (by simp) | exact look_int rfl (by simp; omega))); done) | fail)
            · dsimp only
              rw [hsnoc, List.length_append, iv_append, ← cl_set g h4 0]
              have e9 : (cl (upd g i (g i + 1))).set i (.int .i64 ((0 : Nat) : Int)) = (cl g).set i (.int .i64 ((0 : Nat) : Int)) := by rw [← cl_set g h4 (g i + 1), List.set_set]
              rw [← e9]
              rw [ei] at h
              exact h.psub (by first | ((repeat (first | exact PSub.nil | exact Ext.head | apply Ext.tail | apply PSub.cons)); done) | fail)
          · have hst : fireStep ev ls[i]? (f i) = (f i + 1, false) := by rw [hl, fireStep, hon, if_pos rfl, if_pos hev2, if_neg (by rw [← hgi]; exact hpre)]
            rw [hst] at hsnoc
            (repeat (first | (refine i_dst ?_; (first | (refine i_move ?_; refine l_q rfl rfl rfl (q_move rfl) ?_) | (refine i_bin ?_; refine l_q rfl rfl rfl (by (exact q_add rfl rfl (by (exact wr_i64 (by omega))))) ?_))) | refine c_region ?_ | refine l_nil ?_ | (refine i_q ?_; (first | refine d_then ?_ | refine t_then ?_ | refine t_block ?_)) | refine c_skip ?_ | (refine i_cond ?_; (refine c_cf rfl (by (exact decide_eq_false (by omega))) ?_))))
            refine k_again (i + 1, upd g i (g i + 1), .slice Ad (doneM ls ev f i).length cd) ⟨by dsimp only; omega, upd_next hg (by rw [countM, hst, hgi])⟩ (by dsimp only; omega) ?_ (fun w h => ?_)
            · exact (by first | ((repeat (first | exact trivial | exact rfl | apply Sub.cons | exact look_int rfl (by omega) | exact look_int rfl (by simp) | exact look_int rfl (by simp; omega))); done) | fail)
            · dsimp only
              rw [hsnoc, if_neg (by simp), List.append_nil]
              exact h
        · have hst : fireStep ev ls[i]? (f i) = (f i, false) := by rw [hl, fireStep, hon, if_pos rfl, if_neg hev2]
          rw [hst] at hsnoc
          (repeat (first | (refine i_dst ?_; (first | (refine i_move ?_; refine l_q rfl rfl rfl (q_move rfl) ?_) | (refine i_assign ?_; refine l_q rfl rfl rfl (q_assign rfl) ?_) | (refine i_load ?_; refine l_q rfl rfl rfl (by (first | (exact q_ld1 tab rfl rfl rfl (by first | ((repeat (first | exact List.Mem.head _ | apply List.Mem.tail)); done) | fail) (by (rfl))) | exact q_ldc tab rfl rfl rfl (by assumption))) ?_) | (refine i_bin ?_; refine l_q rfl rfl rfl (by (first | exact q_lss rfl rfl | exact q_eql rfl rfl | exact q_geq rfl rfl | exact q_add rfl rfl (by (exact wr_i64 (by omega))))) ?_) | (refine i_blt ?_; refine l_q rfl rfl rfl (by (exact q_len tab rfl rfl)) ?_) | (refine i_ix ?_; refine l_q rfl rfl rfl (by (exact q_indexAddr tab rfl rfl rfl rfl (by omega))) ?_) | (refine l_q rfl rfl rfl (by (first | (apply iq_fld; (exact q_fieldAddr tab rfl rfl rfl rfl rfl rfl rfl)) | exact q_not rfl | exact q_pick_f rfl rfl)) ?_))) | refine d_seq ?_ | refine c_region ?_ | refine l_nil ?_ | refine c_block ?_ | (refine i_q ?_; (first | refine d_then ?_ | refine t_then ?_ | refine t_block ?_)) | refine c_skip ?_ | (refine i_guard ?_; (first | refine l_gt rfl rfl rfl ?_ | (refine l_gtd rfl rfl rfl (by ((simp; omega))) ?_))) | (refine i_cond ?_; (first | refine c_ct rfl (by (exact decide_eq_true (by omega))) ?_ | refine c_cf rfl (by (first | rfl | exact decide_eq_false (by omega))) ?_))))
          refine k_again (i + 1, g, .slice Ad (doneM ls ev f i).length cd) ⟨by dsimp only; omega, fun k hk => ?_⟩ (by dsimp only; omega) ?_ (fun w h => ?_)
          · dsimp only
            by_cases e : k = i
            · subst e
              rw [hgi, if_pos (by omega), countM, hst]
            · rw [hg k hk]
              by_cases q : k < i
              · rw [if_pos q, if_pos (by omega)]
              · rw [if_neg q, if_neg (by omega)]
          · exact (by first | ((repeat (first | exact trivial | exact rfl | apply Sub.cons | exact look_int rfl (by omega) | exact look_int rfl (by simp) | exact look_int rfl (by simp; omega))); done) | fail)
          · dsimp only
            rw [hsnoc, if_neg (by simp), List.append_nil]
            exact h
    · have hst : fireStep ev ls[i]? (f i) = (0, false) := by rw [List.getElem?_eq_none (by omega), fireStep]
      rw [hst] at hsnoc
      (repeat (first | (refine i_dst ?_; (first | (refine i_move ?_; refine l_q rfl rfl rfl (q_move rfl) ?_) | (refine i_assign ?_; refine l_q rfl rfl rfl (q_assign rfl) ?_) | (refine i_load ?_; refine l_q rfl rfl rfl (by ((exact q_ld1 tab rfl rfl rfl (by first | ((repeat (first | exact List.Mem.head _ | apply List.Mem.tail)); done) | fail) (by (rfl))))) ?_) | (refine i_bin ?_; refine l_q rfl rfl rfl (by (first | exact q_lss rfl rfl | exact q_geq rfl rfl | exact q_add rfl rfl (by (exact wr_i64 (by omega))))) ?_) | (refine i_blt ?_; refine l_q rfl rfl rfl (by (exact q_len tab rfl rfl)) ?_) | (refine i_ix ?_; refine l_q rfl rfl rfl (by (exact q_indexAddrA1 tab rfl rfl rfl rfl (by omega))) ?_) | (refine l_q rfl rfl rfl (by (first | (apply iq_fld; (exact q_fieldAddr tab rfl rfl rfl rfl rfl rfl rfl)) | (apply iq_nck; (exact q_nilck rfl)) | exact q_pick_t rfl rfl)) ?_))) | refine d_seq ?_ | refine c_region ?_ | refine l_nil ?_ | refine c_block ?_ | (refine i_q ?_; (first | refine d_then ?_ | refine t_then ?_ | refine t_block ?_)) | refine c_skip ?_ | (refine i_guard ?_; (first | refine l_gf rfl rfl rfl rfl rfl rfl ?_ | (refine l_gfd rfl rfl rfl (by ((simp; omega))) rfl rfl ?_))) | (refine i_store ?_; ((refine l_setI tab rfl rfl rfl rfl (by first | ((repeat (first | exact Upd.head | apply Upd.tail)); done) | fail) (by (omega)) ?_))) | (refine i_cond ?_; (refine c_ct rfl (by (first | rfl | exact decide_eq_true (by omega))) ?_))))
      refine k_again (i + 1, upd g i 0, .slice Ad (doneM ls ev f i).length cd) ⟨by dsimp only; omega, upd_next hg (by rw [countM, hst])⟩ (by dsimp only; omega) ?_ (fun w h => ?_)
      · exact (by first | ((repeat (first | exact trivial | exact rfl | apply Sub.cons | exact look_int rfl (by omega) | exact look_int rfl (by simp) | exact look_int rfl (by simp; omega))); done) | fail)
      · dsimp only
        rw [hsnoc, if_neg (by simp), List.append_nil, ← cl_set g h4 0]
        rw [ei] at h
        exact h
  · obtain rfl : i = 4 := by omega
    (repeat (first | (refine i_dst ?_; (first | (refine i_move ?_; refine l_q rfl rfl rfl (q_move rfl) ?_) | (refine i_bin ?_; refine l_q rfl rfl rfl (by (exact q_lss rfl rfl)) ?_) | refine l_q rfl rfl rfl (by (exact q_mkfunc rfl)) ?_)) | refine d_seq ?_ | refine c_region ?_ | refine l_nil ?_ | (refine i_q ?_; (first | refine d_then ?_ | refine d_then_exit ?_ | refine t_then_exit ?_ | refine t_block_eq rfl ?_)) | refine c_exit ?_ | (refine i_cond ?_; (refine c_cf rfl (by (rfl)) ?_))))
    (refine l_call1 (X := row 3 1 (.slice Ad (doneM ls ev f 4).length cd) (doneM ls ev f 4).length (iv (doneM ls ev f 4))) (by first | ((repeat (first | exact Ext.head | apply Ext.tail)); done) | fail) rfl rfl Try.func52 rfl (by decide) (fun w' h => sort_spec (ls := ls) (n := n) (A := A) (c := c) h.split (h.roHp (Y := blk b5 [.slice A n c] 35) (by first | ((repeat (first | exact List.Mem.head _ | apply List.Mem.tail)); done) | fail)) (hls.to (fun r hr => h.roOf hr (fun X hX => by simp at hX; simp [hX])) (fun _ _ hl => hl.to (fun r hr => h.roOf hr (fun X hX => by simp at hX; simp [hX])))) (fun x hx => by have := (doneM_lt hx).2; omega) rfl hdl) (fun v B hv => ?_); obtain rfl := hv)
    (repeat (first | (refine i_dst ?_; (first | (refine i_move ?_; refine l_q rfl rfl rfl (q_move rfl) ?_) | (refine i_assign ?_; refine l_q rfl rfl rfl (q_assign rfl) ?_))) | refine d_seq ?_ | refine c_region ?_ | refine l_nil ?_ | (refine i_q ?_; (refine d_then ?_)) | refine c_ret ?_))
    subst hS
    have el : (eventM ls ev f).length = (doneM ls ev f 4).length := length_sortM _ _
    refine t_hp (hp' := [fireA fT p g, row 3 1 (.slice Ad (eventM ls ev f).length cd) (eventM ls ev f).length (iv (eventM ls ev f))]) (fun w h => ?_) (t_ret1 Try.results28 rfl ⟨g, Ad, cd, by rw [el], rfl, fire_all hg⟩)
    rw [el]
    exact h.psub (by first | ((repeat (first | exact PSub.nil | exact Ext.head | apply Ext.tail | apply PSub.cons)); done) | fail)
end Go.Proofs.Ytkeekkdaielipaa

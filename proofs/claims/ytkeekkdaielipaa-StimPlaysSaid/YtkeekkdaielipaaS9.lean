/-
  Layer 14: few, walked.
-/
import Derived.Test.YtkeekkdaielipaaS7
set_option linter.unusedVariables false
set_option maxRecDepth 100000
namespace Go.Proofs.Ytkeekkdaielipaa
open Go.RowKit
attribute [local irreducible] TL TC TQ TK TO Qt TA

attribute [local irreducible] blk row bytesA starL memA segA roB

set_option maxHeartbeats 4000000 in
theorem few14_spec (A : Option Addr) (n c : Nat) (ls : List ListI) (w : World) (S : Nat → Prop) (W : World) (hls : InS S W 8 (InList S W) A n ls) (hto : ∀ r, Ro S W r → Ro (fps []) w r) :
    Calls Try.prog 20 #[.slice A n c] w (Ret w [] (FewOut S W (fewL 6 8 ls))) := by
  have hlen := hls.len
  refine enter (vs := [.slice A n c]) Try.func20 rfl Try.ntmps20 rfl (Hold.nil w) ?_
  have hmx : maxLen = 2 ^ 63 - 1 := rfl
  (repeat (first | (refine i_dst ?_; (first | (refine i_move ?_; refine l_q rfl rfl rfl (q_move rfl) ?_) | (refine i_assign ?_; refine l_q rfl rfl rfl (q_assign rfl) ?_) | (refine i_blt ?_; refine l_q rfl rfl rfl (by (exact q_len tab rfl rfl)) ?_))) | refine d_seq ?_ | refine c_region ?_ | refine l_nil ?_ | refine c_block ?_ | (refine i_q ?_; (refine d_then ?_))))
  refine d_loop (T := List LstV × Value) [9, 10] (fun t => [(11, .int .i64 t.1.length), (3, t.2)]) [] (fun t => [row 42 8 t.2 t.1.length (t.1.flatMap lstCells), starL (t.1.map tabsA)]) (fun t => t.1.length ≤ min n 6 ∧ t.1.map (·.l) = (ls.take t.1.length).map (cutL 8) ∧ ∀ x ∈ t.1, LstOk S W x) (fun t => n - t.1.length) ([], .slice none 0 0) (by first | ((repeat (first | exact Pick.nil | exact rfl | apply Pick.cons)); done) | fail) ⟨Nat.zero_le _, rfl, fun x h => by cases h⟩ (by first | ((repeat (first | exact trivial | exact rfl | apply Sub.cons | exact look_int rfl (by omega) | exact look_int rfl (by simp) | exact look_int rfl (by simp; omega))); done) | fail) (fun w h => st_nil (st_star0 h) _ 8) ?_
  rintro ⟨xs, ov⟩ ⟨hx1, hx2, hx3⟩
  dsimp only at hx1 hx2 hx3 ⊢
  refine c_fact (p := ∃ Ao co, ov = .slice Ao xs.length co ∧ xs.length ≤ co ∧ co ≤ maxLen) (fun w h => ?_) ?_
  · obtain ⟨Ao, co, e1, e2, e3, -⟩ := row_slice (h.get (i := 0) rfl)
    exact ⟨Ao, co, e1, e2, e3⟩
  rintro ⟨Ao, co, rfl, ho1, ho2⟩
  by_cases hlt : xs.length < n
  · obtain ⟨l, hl⟩ : ∃ l, ls[xs.length]? = some l := ⟨_, List.getElem?_eq_getElem (by omega)⟩
    obtain ⟨b, o, r, rfl, hrl, hL, hcell⟩ := hls.get2 hto (by omega) hl
    obtain ⟨⟨At, nt, ct, rfl, htab, ht1, ht2⟩, hl1, hl2, hl3, hl4⟩ := hL
    have htl := htab.len
    by_cases h6 : xs.length < 6
    · (repeat (first | (refine i_dst ?_; (first | (refine i_move ?_; refine l_q rfl rfl rfl (q_move rfl) ?_) | (refine i_assign ?_; refine l_q rfl rfl rfl (q_assign rfl) ?_) | (refine i_load ?_; refine l_q rfl rfl rfl (by (first | (exact q_ld1 tab rfl rfl rfl (by first | ((repeat (first | exact List.Mem.head _ | apply List.Mem.tail)); done) | fail) (by (rfl))) | exact q_ldcN tab rfl rfl rfl rfl (by assumption) rfl)) ?_) | (refine i_bin ?_; refine l_q rfl rfl rfl (by (first | exact q_lss rfl rfl | exact q_geq rfl rfl)) ?_) | (refine i_blt ?_; refine l_q rfl rfl rfl (by (exact q_len tab rfl rfl)) ?_) | (refine i_ix ?_; refine l_q rfl rfl rfl (by (exact q_indexAddr tab rfl rfl rfl rfl (by omega))) ?_) | (refine i_alloc ?_; (refine l_allocA tab rfl rfl (fun _ => ?_))) | (refine l_q rfl rfl rfl (by ((apply iq_fld; (exact q_fieldAddr tab rfl rfl rfl rfl rfl rfl rfl)))) ?_))) | refine d_seq ?_ | refine c_region ?_ | refine l_nil ?_ | refine c_block ?_ | (refine i_q ?_; (refine d_then ?_)) | refine c_skip ?_ | (refine i_store ?_; ((refine l_setN tab rfl rfl rfl rfl (List.cons_ne_nil _ _) rfl (by first | ((repeat (first | exact Upd.head | apply Upd.tail)); done) | fail) (by first | ((repeat (first | exact LSets.nil | exact LSet.zero | apply LSets.cons | apply LSet.succ)); done) | fail) ?_))) | (refine i_cond ?_; (first | refine c_ct rfl (by (exact decide_eq_true (by omega))) ?_ | refine c_cf rfl (by (exact decide_eq_false (by omega))) ?_))))
      rename_i b5
      refine d_loop (T := Nat × Value × List Value) [3, 5, 9, 10, 11, 19, 20] (fun t => [(21, .int .i64 t.1), (6, t.2.1)]) [blk b5 [.int .i64 l.first, .slice At nt ct, .bool l.stim, .int .u8 l.ev, .int .u8 l.pre, .int .u8 l.pri, .bool l.on, .bool l.ch] 42, row 42 8 (.slice Ao xs.length co) xs.length (xs.flatMap lstCells), starL (xs.map tabsA)]
        (fun t => [row 39 1 t.2.1 t.2.2.length t.2.2]) (fun t => t.1 ≤ nt ∧ t.2.2.length = min t.1 4 ∧ ∀ (k : Nat) v q, t.2.2[k]? = some v → l.tabs[k]? = some q → InTab S W [v] (q.take 8)) (fun t => nt - t.1) (0, .slice none 0 0, []) (by first | ((repeat (first | exact Pick.nil | exact rfl | apply Pick.cons)); done) | fail) ⟨Nat.zero_le _, rfl, fun k v q h => by simp at h⟩ (by first | ((repeat (first | exact trivial | exact rfl | apply Sub.cons | exact look_int rfl (by omega) | exact look_int rfl (by simp) | exact look_int rfl (by simp; omega))); done) | fail) (fun w h => st_nil h _ 1) ?_
      rintro ⟨j, tv, tvs⟩ ⟨hj1, hj2, hj3⟩
      dsimp only at hj1 hj2 hj3 ⊢
      refine c_fact (p := ∃ Aq cq, tv = .slice Aq tvs.length cq ∧ tvs.length ≤ cq ∧ cq ≤ maxLen) (fun w h => ?_) ?_
      · obtain ⟨Aq, cq, e1, e2, e3, -⟩ := row_slice (h.get (i := 0) rfl)
        exact ⟨Aq, cq, e1, e2, e3⟩
      rintro ⟨Aq, cq, rfl, hq1, hq2⟩
      by_cases hjl : j < nt
      · obtain ⟨t, ht⟩ : ∃ t, l.tabs[j]? = some t := ⟨_, List.getElem?_eq_getElem (by omega)⟩
        obtain ⟨bT, oT, r2, rfl, hrl2, hT, hcell2⟩ := htab.get2 hto (by omega) ht
        obtain ⟨Ae, ne, ce, rfl, hE, he1, he2⟩ := hT
        have hel := hE.len
        have hc2 : ∀ hp w', St (fps []) w hp w' → w'.cell? ⟨bT, oT + (j : Int).toNat, none⟩ = some (.slice Ae ne ce) := fun hp w' h => by
          have := (hcell2 hp w' h) 0 _ rfl
          simpa using this
        by_cases hj4 : j < 4
        · (repeat (first | (refine i_dst ?_; (first | (refine i_move ?_; refine l_q rfl rfl rfl (q_move rfl) ?_) | (refine i_assign ?_; refine l_q rfl rfl rfl (q_assign rfl) ?_) | (refine i_load ?_; refine l_q rfl rfl rfl (by (exact q_ldc tab rfl rfl rfl (by assumption))) ?_) | (refine i_bin ?_; refine l_q rfl rfl rfl (by (exact q_lss rfl rfl)) ?_) | (refine i_blt ?_; refine l_q rfl rfl rfl (by (first | exact q_len tab rfl rfl | exact q_minN rfl rfl)) ?_) | (refine i_ix ?_; refine l_q rfl rfl rfl (by (exact q_indexAddr1 tab rfl rfl rfl rfl (by omega))) ?_) | (refine i_sl ?_; refine l_q rfl rfl rfl (by (exact q_slHi tab rfl rfl rfl rfl (by first | (with_reducible exact Int.toNat_natCast _) | (with_reducible exact Int.toNat_zero) | (with_reducible exact Int.toNat_one) | rfl) (by (omega)))) ?_) | (refine i_bldS ?_; refine l_bldS tab rfl rfl rfl rfl (by first | exact CellsOf.agg | exact CellsOf.one rfl) (by first | ((repeat (first | exact RepR.zero | exact AppR.nil | apply RepR.succ | apply AppR.cons)); done) | fail) (by first | ((repeat (first | exact FillR.nil | exact LSets.nil | exact LSet.zero | exact CellsOf.agg | exact rfl | exact CellsOf.one rfl | apply FillR.cons | apply LSets.cons | apply LSet.succ)); done) | fail) (fun w => by kernel_rfl) (fun _ => ?_)))) | refine d_seq ?_ | refine c_region ?_ | refine l_nil ?_ | refine c_block ?_ | (refine i_q ?_; (refine d_then ?_)) | refine c_skip ?_ | (refine i_cond ?_; (refine c_ct rfl (by (exact decide_eq_true (by omega))) ?_))))
          rename_i g4
          (refine l_app tab rfl rfl rfl rowEE (by first | ((repeat (first | exact Ext.head | apply Ext.tail)); done) | fail) (news := [.slice Ae (min ne 8) ce]) (fun w h => SrcAt.blk (h.mem (by first | ((repeat (first | exact List.Mem.head _ | apply List.Mem.tail)); done) | fail)) rfl) (by simp [Value.oneCell']) (by omega) (by omega) (fun A6 c6 hA1 hA2 => ?_))
          (repeat (first | (refine i_dst ?_; (first | (refine i_move ?_; refine l_q rfl rfl rfl (q_move rfl) ?_) | (refine i_assign ?_; refine l_q rfl rfl rfl (q_assign rfl) ?_) | (refine i_bin ?_; refine l_q rfl rfl rfl (by (exact q_add rfl rfl (by (exact wr_i64 (by omega))))) ?_))) | refine c_region ?_ | refine l_nil ?_ | (refine i_q ?_; (first | refine d_then ?_ | refine t_then ?_ | refine t_block ?_))))
          refine k_again (j + 1, .slice A6 (tvs.length + 1) c6, tvs ++ [.slice Ae (min ne 8) ce]) ⟨by dsimp only; omega, by dsimp only; rw [List.length_append, hj2, List.length_singleton]; omega, fun k v q hv hq => ?_⟩ (by dsimp only; omega) (by first | ((repeat (first | exact trivial | exact rfl | apply Sub.cons | exact look_int rfl (by omega) | exact look_int rfl (by simp) | exact look_int rfl (by simp; omega))); done) | fail) (fun w h => ?_)
          · dsimp only at hv
            by_cases hk : k < tvs.length
            · rw [List.getElem?_append_left hk] at hv
              exact hj3 k v q hv hq
            · rw [List.getElem?_append_right (by omega)] at hv
              have hkl := (List.getElem?_eq_some_iff.1 hv).1
              rw [List.length_singleton] at hkl
              obtain rfl : k = j := by omega
              rw [ht] at hq
              injection hq with hq
              subst hq
              have h0 : k - tvs.length = 0 := by omega
              rw [h0] at hv
              injection hv with hv
              subst hv
              refine ⟨Ae, min ne 8, ce, rfl, ?_, by omega, he2⟩
              have e8 : t.take 8 = t.take (min ne 8) := by
                by_cases h : ne ≤ 8
                · rw [Nat.min_eq_left h, List.take_of_length_le (by omega), List.take_of_length_le (by omega)]
                · rw [Nat.min_eq_right (by omega)]
              rw [e8]
              exact hE.take (by omega) (by omega)
          · dsimp only
            rw [List.length_append, List.length_singleton]
            exact h.subl (by first | ((repeat (first | exact SubL.nil | apply SubL.keep | apply SubL.skip)); done) | fail)
        · (repeat (first | (refine i_dst ?_; (first | (refine i_move ?_; refine l_q rfl rfl rfl (q_move rfl) ?_) | (refine i_assign ?_; refine l_q rfl rfl rfl (q_assign rfl) ?_) | (refine i_load ?_; refine l_q rfl rfl rfl (by (exact q_ldc tab rfl rfl rfl (by assumption))) ?_) | (refine i_bin ?_; refine l_q rfl rfl rfl (by (first | exact q_lss rfl rfl | exact q_add rfl rfl (by (exact wr_i64 (by omega))))) ?_) | (refine i_ix ?_; refine l_q rfl rfl rfl (by (exact q_indexAddr1 tab rfl rfl rfl rfl (by omega))) ?_))) | refine d_seq ?_ | refine c_region ?_ | refine l_nil ?_ | refine c_block ?_ | (refine i_q ?_; (first | refine d_then ?_ | refine t_then ?_ | refine t_block ?_)) | refine c_skip ?_ | (refine i_cond ?_; (first | refine c_ct rfl (by (exact decide_eq_true (by omega))) ?_ | refine c_cf rfl (by (exact decide_eq_false (by omega))) ?_))))
          exact k_again (j + 1, .slice Aq tvs.length cq, tvs) ⟨by dsimp only; omega, by dsimp only; rw [hj2]; omega, hj3⟩ (by dsimp only; omega) (by first | ((repeat (first | exact trivial | exact rfl | apply Sub.cons | exact look_int rfl (by omega) | exact look_int rfl (by simp) | exact look_int rfl (by simp; omega))); done) | fail) (fun w h => h.subl (by first | ((repeat (first | exact SubL.nil | apply SubL.keep | apply SubL.skip)); done) | fail))
      · have hjn : j = nt := by omega
        subst hjn
        (repeat (first | (refine i_dst ?_; (first | (refine i_move ?_; refine l_q rfl rfl rfl (q_move rfl) ?_) | (refine i_load ?_; refine l_q rfl rfl rfl (by ((exact q_ldN tab rfl rfl rfl rfl (by first | ((repeat (first | exact List.Mem.head _ | apply List.Mem.tail)); done) | fail) (by first | ((repeat (first | exact TakeR.nil | apply TakeR.cons | apply CutR.zero | apply CutR.skip)); done) | fail)))) ?_) | (refine i_bin ?_; refine l_q rfl rfl rfl (by (exact q_lss rfl rfl)) ?_) | (refine i_bldS ?_; refine l_bldS tab rfl rfl rfl rfl (by first | exact CellsOf.agg | exact CellsOf.one rfl) (by first | ((repeat (first | exact RepR.zero | exact AppR.nil | apply RepR.succ | apply AppR.cons)); done) | fail) (by first | ((repeat (first | exact FillR.nil | exact LSets.nil | exact LSet.zero | exact CellsOf.agg | exact rfl | exact CellsOf.one rfl | apply FillR.cons | apply LSets.cons | apply LSet.succ)); done) | fail) (fun w => by kernel_rfl) (fun _ => ?_)) | (refine l_q rfl rfl rfl (by ((apply iq_fld; (exact q_fieldAddr tab rfl rfl rfl rfl rfl rfl rfl)))) ?_))) | refine d_seq ?_ | refine c_region ?_ | refine l_nil ?_ | (refine i_q ?_; (first | refine d_then ?_ | refine d_then_exit ?_ | refine t_then_exit ?_ | refine t_block_eq rfl ?_)) | refine c_exit ?_ | (refine i_store ?_; ((refine l_set tab rfl rfl rfl rfl (by first | ((repeat (first | exact Upd.head | apply Upd.tail)); done) | fail) (by first | ((repeat (first | exact LSet.zero | apply LSet.succ)); done) | fail) ?_))) | (refine i_cond ?_; ((refine c_cf rfl (by (((first | (simp; done) | fail)))) ?_)))))
        rename_i g7
        (refine l_app tab rfl rfl rfl rowLL (by first | ((repeat (first | exact Ext.head | apply Ext.tail)); done) | fail) (news := [.int .i64 l.first, .slice Aq tvs.length cq, .bool l.stim, .int .u8 l.ev, .int .u8 l.pre, .int .u8 l.pri, .bool l.on, .bool l.ch]) (fun w h => SrcAt.blk (h.mem (by first | ((repeat (first | exact List.Mem.head _ | apply List.Mem.tail)); done) | fail)) rfl) (by simp [Value.oneCell']) (by omega) (by omega) (fun A7 c7 hA1 hA2 => ?_))
        (repeat (first | (refine i_dst ?_; (first | (refine i_move ?_; refine l_q rfl rfl rfl (q_move rfl) ?_) | (refine i_assign ?_; refine l_q rfl rfl rfl (q_assign rfl) ?_) | (refine i_bin ?_; refine l_q rfl rfl rfl (by (exact q_add rfl rfl (by (exact wr_i64 (by omega))))) ?_))) | refine c_region ?_ | refine l_nil ?_ | (refine i_q ?_; (first | refine d_then ?_ | refine t_then ?_ | refine t_block ?_))))
        have htv : tvs.length = ((l.tabs.take 4).map (·.take 8)).length := by rw [List.length_map, List.length_take, hj2, htl]; omega
        refine k_again (xs ++ [⟨cutL 8 l, .slice Aq tvs.length cq, tvs⟩], .slice A7 (xs.length + 1) c7) ⟨by dsimp only; rw [List.length_append, List.length_singleton]; omega, ?_, fun x hx => ?_⟩ (by dsimp only; rw [List.length_append, List.length_singleton]; omega) ?_ (fun w h => ?_)
        · dsimp only
          rw [List.map_append, List.length_append, List.length_singleton, List.take_add_one, hl, hx2]
          simp
        · dsimp only at hx
          rcases List.mem_append.1 hx with hx | hx
          · exact hx3 x hx
          · rw [List.mem_singleton] at hx
            subst hx
            refine ⟨htv, fun k v q hv hq => ?_, hl1, hl2, hl3, hl4⟩
            have hq : ((l.tabs.take 4).map (·.take 8))[k]? = some q := hq
            rw [List.getElem?_map, Option.map_eq_some_iff] at hq
            obtain ⟨q0, hq0, rfl⟩ := hq
            have hk4 : k < 4 := by
              have := (List.getElem?_eq_some_iff.1 hq0).1
              rw [List.length_take] at this
              omega
            rw [List.getElem?_take_of_lt hk4] at hq0
            exact hj3 k v q0 hv hq0
        · dsimp only
          rw [List.length_append, List.length_singleton]
          exact (by first | ((repeat (first | exact trivial | exact rfl | apply Sub.cons | exact look_int rfl (by omega) | exact look_int rfl (by simp) | exact look_int rfl (by simp; omega))); done) | fail)
        · dsimp only
          rw [List.length_append, List.length_singleton, List.flatMap_append, List.map_append]
          have h1 : St (fps []) _ (tabsA ⟨cutL 8 l, .slice Aq tvs.length cq, tvs⟩ :: starL (xs.map tabsA) :: [row 42 8 (.slice A7 (xs.length + 1) c7) (xs.length + 1) (xs.flatMap lstCells ++ [.int .i64 l.first, .slice Aq tvs.length cq, .bool l.stim, .int .u8 l.ev, .int .u8 l.pre, .int .u8 l.pri, .bool l.on, .bool l.ch])]) w := (h.ext (X := row 39 1 (.slice Aq tvs.length cq) tvs.length tvs) (by first | ((repeat (first | exact Ext.head | apply Ext.tail)); done) | fail)).subl (by first | ((repeat (first | exact SubL.nil | apply SubL.keep | apply SubL.skip)); done) | fail) |>.perm (.cons _ (.swap _ _ _))
          exact (st_snoc h1).perm (.swap _ _ _)
    · have hx6 : xs.length = 6 := by omega
      (repeat (first | (refine i_dst ?_; (first | (refine i_move ?_; refine l_q rfl rfl rfl (q_move rfl) ?_) | (refine i_assign ?_; refine l_q rfl rfl rfl (q_assign rfl) ?_) | (refine i_load ?_; refine l_q rfl rfl rfl (by (exact q_ldcN tab rfl rfl rfl rfl (by assumption) rfl)) ?_) | (refine i_bin ?_; refine l_q rfl rfl rfl (by (first | exact q_lss rfl rfl | exact q_geq rfl rfl)) ?_) | (refine i_ix ?_; refine l_q rfl rfl rfl (by (exact q_indexAddr tab rfl rfl rfl rfl (by omega))) ?_) | (refine i_alloc ?_; (refine l_allocA tab rfl rfl (fun _ => ?_))))) | refine d_seq ?_ | refine c_region ?_ | refine l_nil ?_ | refine c_block ?_ | (refine i_q ?_; (first | refine d_then ?_ | refine d_then_exit ?_ | refine t_then_exit ?_ | refine t_block_eq rfl ?_ | refine t_block_ne rfl ?_)) | refine c_skip ?_ | refine c_exit ?_ | refine c_ret ?_ | (refine i_store ?_; ((refine l_setN tab rfl rfl rfl rfl (List.cons_ne_nil _ _) rfl (by first | ((repeat (first | exact Upd.head | apply Upd.tail)); done) | fail) (by first | ((repeat (first | exact LSets.nil | exact LSet.zero | apply LSets.cons | apply LSet.succ)); done) | fail) ?_))) | (refine i_cond ?_; (refine c_ct rfl (by (exact decide_eq_true (by omega))) ?_))))
      refine t_hp (fun w h => h.subl (by first | ((repeat (first | exact SubL.nil | apply SubL.keep | apply SubL.skip)); done) | fail)) (t_ret1 Try.results20 rfl ⟨Ao, co, xs, rfl, ho1, ho2, rfl, ?_, hx3⟩)
      rw [hx2, hx6]
      rfl
  · (repeat (first | (refine i_dst ?_; (first | (refine i_move ?_; refine l_q rfl rfl rfl (q_move rfl) ?_) | (refine i_assign ?_; refine l_q rfl rfl rfl (q_assign rfl) ?_) | (refine i_bin ?_; refine l_q rfl rfl rfl (by (exact q_lss rfl rfl)) ?_))) | refine d_seq ?_ | refine c_region ?_ | refine l_nil ?_ | (refine i_q ?_; (first | refine d_then ?_ | refine d_then_exit ?_ | refine t_then_exit ?_ | refine t_block_eq rfl ?_)) | refine c_exit ?_ | refine c_ret ?_ | (refine i_cond ?_; (refine c_cf rfl (by (exact decide_eq_false (by omega))) ?_))))
    refine t_hp (fun w h => h.subl (by first | ((repeat (first | exact SubL.nil | apply SubL.keep | apply SubL.skip)); done) | fail)) (t_ret1 Try.results20 rfl ⟨Ao, co, xs, rfl, ho1, ho2, rfl, ?_, hx3⟩)
    rw [hx2, fewL, List.take_of_length_le (by omega), List.take_of_length_le (by omega)]
end Go.Proofs.Ytkeekkdaielipaa

/-
  Part 22 of the proof of QJ: the texts FL FM B3 Y1 Y2 Y3.
-/
import Derived.Test.YtboccjdncdaakaaK11
import Derived.Test.YtboccjdncdaakaaK21
import Derived.Test.YtboccjdncdaakaaK09
import Derived.Test.YtboccjdncdaakaaK07
import Derived.Test.YtboccjdncdaakaaK06
import Derived.Test.YtboccjdncdaakaaK08

/-
  callipertop.few, walked.
-/

set_option linter.unusedVariables false
set_option maxRecDepth 100000
namespace Go.Proofs.Ytboccjdncdaakaa
open Go.RowKit
attribute [local irreducible] TL TC TQ TK TO Qt TA
attribute [local irreducible] blk row bytesA starL memA segA roB
set_option maxHeartbeats 4000000 in
theorem fewT_spec (A : Option Addr) (n c : Nat) (ls : List ListI) (w : World) (S : Nat → Prop) (W : World) (hls : InS S W 8 (InList S W) A n ls) (hto : ∀ r, Ro S W r → Ro (fps []) w r) :
    Calls Try.prog 4 #[.slice A n c] w (Ret w [] (FewOut S W (fewL 4 7 ls))) := by
  have hlen := hls.len
  refine enter (vs := [.slice A n c]) Try.func4 rfl Try.ntmps4 rfl (Hold.nil w) ?_
  have hmx : maxLen = 2 ^ 63 - 1 := rfl
  (repeat (first | (refine i_dst ?_; (first | (refine i_move ?_; refine l_q rfl rfl rfl (q_move rfl) ?_) | (refine i_assign ?_; refine l_q rfl rfl rfl (q_assign rfl) ?_) | (refine i_blt ?_; refine l_q rfl rfl rfl (by (exact q_len tab rfl rfl)) ?_))) | refine d_seq ?_ | refine c_region ?_ | refine l_nil ?_ | refine c_block ?_ | (refine i_q ?_; (refine d_then ?_))))
  refine d_loop (T := List LstV × Value) [9, 10] (fun t => [(11, .int .i64 t.1.length), (3, t.2)]) [] (fun t => [row 27 8 t.2 t.1.length (t.1.flatMap lstCells), starL (t.1.map tabsA)]) (fun t => t.1.length ≤ min n 4 ∧ t.1.map (·.l) = (ls.take t.1.length).map (cutL 7) ∧ ∀ x ∈ t.1, LstOk S W x) (fun t => n - t.1.length) ([], .slice none 0 0) (by first | ((repeat (first | exact Pick.nil | exact rfl | apply Pick.cons)); done) | fail) ⟨Nat.zero_le _, rfl, fun x h => by cases h⟩ (by first | ((repeat (first | exact trivial | exact rfl | apply Sub.cons | exact look_int rfl (by omega) | exact look_int rfl (by simp) | exact look_int rfl (by simp; omega))); done) | fail) (fun w h => st_nil (st_star0 h) _ 8) ?_
  rintro ⟨xs, ov⟩ ⟨hx1, hx2, hx3⟩
  dsimp only at hx1 hx2 hx3 ⊢
  refine c_fact (p := ∃ Ao co, ov = .slice Ao xs.length co ∧ xs.length ≤ co ∧ co ≤ maxLen) (fun w h => ?_) ?_
  · obtain ⟨Ao, co, e1, e2, e3, -⟩ := row_slice (h.get (i := 0) rfl)
    exact ⟨Ao, co, e1, e2, e3⟩
  rintro ⟨Ao, co, rfl, ho1, ho2⟩
  by_cases hlt : xs.length < n
  · obtain ⟨l, hl⟩ : ∃ l, ls[xs.length]? = some l := ⟨_, List.getElem?_eq_getElem (by omega)⟩
    obtain ⟨b, o, r, rfl, hrl, hL, hcell⟩ := hls.get2 hto (by omega) hl
    obtain ⟨⟨At, nt, ct, rfl, htab, ht1, ht2⟩, hl1, hl2, hl3, hl4⟩ := hL
    have htl := htab.len
    by_cases h6 : xs.length < 4
    · (repeat (first | (refine i_dst ?_; (first | (refine i_move ?_; refine l_q rfl rfl rfl (q_move rfl) ?_) | (refine i_assign ?_; refine l_q rfl rfl rfl (q_assign rfl) ?_) | (refine i_load ?_; refine l_q rfl rfl rfl (by (first | (exact q_ld1 tab rfl rfl rfl (by first | ((repeat (first | exact List.Mem.head _ | apply List.Mem.tail)); done) | fail) (by (rfl))) | exact q_ldcN tab rfl rfl rfl rfl (by assumption) rfl)) ?_) | (refine i_bin ?_; refine l_q rfl rfl rfl (by (first | exact q_lss rfl rfl | exact q_geq rfl rfl)) ?_) | (refine i_blt ?_; refine l_q rfl rfl rfl (by (exact q_len tab rfl rfl)) ?_) | (refine i_ix ?_; refine l_q rfl rfl rfl (by (exact q_indexAddr tab rfl rfl rfl rfl (by omega))) ?_) | (refine i_alloc ?_; (refine l_allocA tab rfl rfl (fun _ => ?_))) | (refine l_q rfl rfl rfl (by ((apply iq_fld; (exact q_fieldAddr tab rfl rfl rfl rfl rfl rfl rfl)))) ?_))) | refine d_seq ?_ | refine c_region ?_ | refine l_nil ?_ | refine c_block ?_ | (refine i_q ?_; (refine d_then ?_)) | refine c_skip ?_ | (refine i_store ?_; ((refine l_setN tab rfl rfl rfl rfl (List.cons_ne_nil _ _) rfl (by first | ((repeat (first | exact Upd.head | apply Upd.tail)); done) | fail) (by first | ((repeat (first | exact LSets.nil | exact LSet.zero | apply LSets.cons | apply LSet.succ)); done) | fail) ?_))) | (refine i_cond ?_; (first | refine c_ct rfl (by (exact decide_eq_true (by omega))) ?_ | refine c_cf rfl (by (exact decide_eq_false (by omega))) ?_))))
      rename_i b5
      refine d_loop (T := Nat × Value × List Value) [3, 5, 9, 10, 11, 19, 20] (fun t => [(21, .int .i64 t.1), (6, t.2.1)]) [blk b5 [.int .i64 l.first, .slice At nt ct, .bool l.stim, .int .u8 l.ev, .int .u8 l.pre, .int .u8 l.pri, .bool l.on, .bool l.ch] 27, row 27 8 (.slice Ao xs.length co) xs.length (xs.flatMap lstCells), starL (xs.map tabsA)]
        (fun t => [row 37 1 t.2.1 t.2.2.length t.2.2]) (fun t => t.1 ≤ nt ∧ t.2.2.length = min t.1 4 ∧ ∀ (k : Nat) v q, t.2.2[k]? = some v → l.tabs[k]? = some q → InTab S W [v] (q.take 7)) (fun t => nt - t.1) (0, .slice none 0 0, []) (by first | ((repeat (first | exact Pick.nil | exact rfl | apply Pick.cons)); done) | fail) ⟨Nat.zero_le _, rfl, fun k v q h => by simp at h⟩ (by first | ((repeat (first | exact trivial | exact rfl | apply Sub.cons | exact look_int rfl (by omega) | exact look_int rfl (by simp) | exact look_int rfl (by simp; omega))); done) | fail) (fun w h => st_nil h _ 1) ?_
      rintro ⟨j, tv, tvs⟩ ⟨hj1, hj2, hj3⟩
      dsimp only at hj1 hj2 hj3 ⊢
      refine c_fact (p := ∃ Aq cq, tv = .slice Aq tvs.length cq ∧ tvs.length ≤ cq ∧ cq ≤ maxLen) (fun w h => ?_) ?_
      · obtain ⟨Aq, cq, e1, e2, e3, -⟩ := row_slice (h.get (i := 0) rfl)
        exact ⟨Aq, cq, e1, e2, e3⟩
      rintro ⟨Aq, cq, rfl, hq1, hq2⟩
      by_cases hjl : j < nt
      · obtain ⟨t, ht⟩ : ∃ t, l.tabs[j]? = some t := ⟨_, List.getElem?_eq_getElem (by omega)⟩
        obtain ⟨bT, oT, r2, rfl, hrl2, hT, hcell2⟩ := htab.get2 hto (by omega) ht
        obtain ⟨Ae, ne, ce, rfl, hE, he1, he2⟩ := hT
        have hel := hE.len
        have hc2 : ∀ hp w', St (fps []) w hp w' → w'.cell? ⟨bT, oT + (j : Int).toNat, none⟩ = some (.slice Ae ne ce) := fun hp w' h => by
          have := (hcell2 hp w' h) 0 _ rfl
          simpa using this
        by_cases hj4 : j < 4
        · (repeat (first | (refine i_dst ?_; (first | (refine i_move ?_; refine l_q rfl rfl rfl (q_move rfl) ?_) | (refine i_assign ?_; refine l_q rfl rfl rfl (q_assign rfl) ?_) | (refine i_load ?_; refine l_q rfl rfl rfl (by (exact q_ldc tab rfl rfl rfl (by assumption))) ?_) | (refine i_bin ?_; refine l_q rfl rfl rfl (by (exact q_lss rfl rfl)) ?_) | (refine i_blt ?_; refine l_q rfl rfl rfl (by (first | exact q_len tab rfl rfl | exact q_minN rfl rfl)) ?_) | (refine i_ix ?_; refine l_q rfl rfl rfl (by (exact q_indexAddr1 tab rfl rfl rfl rfl (by omega))) ?_) | (refine i_sl ?_; refine l_q rfl rfl rfl (by (exact q_slHi tab rfl rfl rfl rfl (by first | (with_reducible exact Int.toNat_natCast _) | (with_reducible exact Int.toNat_zero) | (with_reducible exact Int.toNat_one) | rfl) (by (omega)))) ?_) | (refine i_bldS ?_; refine l_bldS tab rfl rfl rfl rfl (by first | exact CellsOf.agg | exact CellsOf.one rfl) (by first | ((repeat (first | exact RepR.zero | exact AppR.nil | apply RepR.succ | apply AppR.cons)); done) | fail) (by first | ((repeat (first | exact FillR.nil | exact LSets.nil | exact LSet.zero | exact CellsOf.agg | exact rfl | exact CellsOf.one rfl | apply FillR.cons | apply LSets.cons | apply LSet.succ)); done) | fail) (fun w => by kernel_rfl) (fun _ => ?_)))) | refine d_seq ?_ | refine c_region ?_ | refine l_nil ?_ | refine c_block ?_ | (refine i_q ?_; (refine d_then ?_)) | refine c_skip ?_ | (refine i_cond ?_; (refine c_ct rfl (by (exact decide_eq_true (by omega))) ?_))))
          rename_i g4
          (refine l_app tab rfl rfl rfl rowEE (by first | ((repeat (first | exact Ext.head | apply Ext.tail)); done) | fail) (news := [.slice Ae (min ne 7) ce]) (fun w h => SrcAt.blk (h.mem (by first | ((repeat (first | exact List.Mem.head _ | apply List.Mem.tail)); done) | fail)) rfl) (by simp [Value.oneCell']) (by omega) (by omega) (fun A6 c6 hA1 hA2 => ?_))
          (repeat (first | (refine i_dst ?_; (first | (refine i_move ?_; refine l_q rfl rfl rfl (q_move rfl) ?_) | (refine i_assign ?_; refine l_q rfl rfl rfl (q_assign rfl) ?_) | (refine i_bin ?_; refine l_q rfl rfl rfl (by (exact q_add rfl rfl (by (exact wr_i64 (by omega))))) ?_))) | refine c_region ?_ | refine l_nil ?_ | (refine i_q ?_; (first | refine d_then ?_ | refine t_then ?_ | refine t_block ?_))))
          refine k_again (j + 1, .slice A6 (tvs.length + 1) c6, tvs ++ [.slice Ae (min ne 7) ce]) ⟨by dsimp only; omega, by dsimp only; rw [List.length_append, hj2, List.length_singleton]; omega, fun k v q hv hq => ?_⟩ (by dsimp only; omega) (by first | ((repeat (first | exact trivial | exact rfl | apply Sub.cons | exact look_int rfl (by omega) | exact look_int rfl (by simp) | exact look_int rfl (by simp; omega))); done) | fail) (fun w h => ?_)
          · dsimp only at hv
            by_cases hk : k < tvs.length
            · rw [List.getElem?_append_left hk] at hv
              exact hj3 k v q hv hq
            · rw [List.getElem?_append_right (by omega)] at hv
              have hkl := (List.getElem?_eq_some_iff.1 hv).1
              rw [List.length_singleton] at hkl
              obtain rfl : k = j := by omega
              rw [ht] at hq
              injection hq with hq
              subst hq
              have h0 : k - tvs.length = 0 := by omega
              rw [h0] at hv
              injection hv with hv
              subst hv
              refine ⟨Ae, min ne 7, ce, rfl, ?_, by omega, he2⟩
              have e8 : t.take 7 = t.take (min ne 7) := by
                by_cases h : ne ≤ 7
                · rw [Nat.min_eq_left h, List.take_of_length_le (by omega), List.take_of_length_le (by omega)]
                · rw [Nat.min_eq_right (by omega)]
              rw [e8]
              exact hE.take (by omega) (by omega)
          · dsimp only
            rw [List.length_append, List.length_singleton]
            exact h.subl (by first | ((repeat (first | exact SubL.nil | apply SubL.keep | apply SubL.skip)); done) | fail)
        · (repeat (first | (refine i_dst ?_; (first | (refine i_move ?_; refine l_q rfl rfl rfl (q_move rfl) ?_) | (refine i_assign ?_; refine l_q rfl rfl rfl (q_assign rfl) ?_) | (refine i_load ?_; refine l_q rfl rfl rfl (by (exact q_ldc tab rfl rfl rfl (by assumption))) ?_) | (refine i_bin ?_; refine l_q rfl rfl rfl (by (first | exact q_lss rfl rfl | exact q_add rfl rfl (by (exact wr_i64 (by omega))))) ?_) | (refine i_ix ?_; refine l_q rfl rfl rfl (by (exact q_indexAddr1 tab rfl rfl rfl rfl (by omega))) ?_))) | refine d_seq ?_ | refine c_region ?_ | refine l_nil ?_ | refine c_block ?_ | (refine i_q ?_; (first | refine d_then ?_ | refine t_then ?_ | refine t_block ?_)) | refine c_skip ?_ | (refine i_cond ?_; (first | refine c_ct rfl (by (exact decide_eq_true (by omega))) ?_ | refine c_cf rfl (by (exact decide_eq_false (by omega))) ?_))))
          exact k_again (j + 1, .slice Aq tvs.length cq, tvs) ⟨by dsimp only; omega, by dsimp only; rw [hj2]; omega, hj3⟩ (by dsimp only; omega) (by first | ((repeat (first | exact trivial | exact rfl | apply Sub.cons | exact look_int rfl (by omega) | exact look_int rfl (by simp) | exact look_int rfl (by simp; omega))); done) | fail) (fun w h => h.subl (by first | ((repeat (first | exact SubL.nil | apply SubL.keep | apply SubL.skip)); done) | fail))
      · have hjn : j = nt := by omega
        subst hjn
        (repeat (first | (refine i_dst ?_; (first | (refine i_move ?_; refine l_q rfl rfl rfl (q_move rfl) ?_) | (refine i_load ?_; refine l_q rfl rfl rfl (by ((exact q_ldN tab rfl rfl rfl rfl (by first | ((repeat (first | exact List.Mem.head _ | apply List.Mem.tail)); done) | fail) (by first | ((repeat (first | exact TakeR.nil | apply TakeR.cons | apply CutR.zero | apply CutR.skip)); done) | fail)))) ?_) | (refine i_bin ?_; refine l_q rfl rfl rfl (by (exact q_lss rfl rfl)) ?_) | (refine i_bldS ?_; refine l_bldS tab rfl rfl rfl rfl (by first | exact CellsOf.agg | exact CellsOf.one rfl) (by first | ((repeat (first | exact RepR.zero | exact AppR.nil | apply RepR.succ | apply AppR.cons)); done) | fail) (by first | ((repeat (first | exact FillR.nil | exact LSets.nil | exact LSet.zero | exact CellsOf.agg | exact rfl | exact CellsOf.one rfl | apply FillR.cons | apply LSets.cons | apply LSet.succ)); done) | fail) (fun w => by kernel_rfl) (fun _ => ?_)) | (refine l_q rfl rfl rfl (by ((apply iq_fld; (exact q_fieldAddr tab rfl rfl rfl rfl rfl rfl rfl)))) ?_))) | refine d_seq ?_ | refine c_region ?_ | refine l_nil ?_ | (refine i_q ?_; (first | refine d_then ?_ | refine d_then_exit ?_ | refine t_then_exit ?_ | refine t_block_eq rfl ?_)) | refine c_exit ?_ | (refine i_store ?_; ((refine l_set tab rfl rfl rfl rfl (by first | ((repeat (first | exact Upd.head | apply Upd.tail)); done) | fail) (by first | ((repeat (first | exact LSet.zero | apply LSet.succ)); done) | fail) ?_))) | (refine i_cond ?_; ((refine c_cf rfl (by (((first | (simp; done) | fail)))) ?_)))))
        rename_i g7
        (refine l_app tab rfl rfl rfl rowLL (by first | ((repeat (first | exact Ext.head | apply Ext.tail)); done) | fail) (news := [.int .i64 l.first, .slice Aq tvs.length cq, .bool l.stim, .int .u8 l.ev, .int .u8 l.pre, .int .u8 l.pri, .bool l.on, .bool l.ch]) (fun w h => SrcAt.blk (h.mem (by first | ((repeat (first | exact List.Mem.head _ | apply List.Mem.tail)); done) | fail)) rfl) (by simp [Value.oneCell']) (by omega) (by omega) (fun A7 c7 hA1 hA2 => ?_))
        (repeat (first | (refine i_dst ?_; (first | (refine i_move ?_; refine l_q rfl rfl rfl (q_move rfl) ?_) | (refine i_assign ?_; refine l_q rfl rfl rfl (q_assign rfl) ?_) | (refine i_bin ?_; refine l_q rfl rfl rfl (by (exact q_add rfl rfl (by (exact wr_i64 (by omega))))) ?_))) | refine c_region ?_ | refine l_nil ?_ | (refine i_q ?_; (first | refine d_then ?_ | refine t_then ?_ | refine t_block ?_))))
        have htv : tvs.length = ((l.tabs.take 4).map (·.take 7)).length := by rw [List.length_map, List.length_take, hj2, htl]; omega
        refine k_again (xs ++ [⟨cutL 7 l, .slice Aq tvs.length cq, tvs⟩], .slice A7 (xs.length + 1) c7) ⟨by dsimp only; rw [List.length_append, List.length_singleton]; omega, ?_, fun x hx => ?_⟩ (by dsimp only; rw [List.length_append, List.length_singleton]; omega) ?_ (fun w h => ?_)
        · dsimp only
          rw [List.map_append, List.length_append, List.length_singleton, List.take_add_one, hl, hx2]
          simp
        · dsimp only at hx
          rcases List.mem_append.1 hx with hx | hx
          · exact hx3 x hx
          · rw [List.mem_singleton] at hx
            subst hx
            refine ⟨htv, fun k v q hv hq => ?_, hl1, hl2, hl3, hl4⟩
            have hq : ((l.tabs.take 4).map (·.take 7))[k]? = some q := hq
            rw [List.getElem?_map, Option.map_eq_some_iff] at hq
            obtain ⟨q0, hq0, rfl⟩ := hq
            have hk4 : k < 4 := by
              have := (List.getElem?_eq_some_iff.1 hq0).1
              rw [List.length_take] at this
              omega
            rw [List.getElem?_take_of_lt hk4] at hq0
            exact hj3 k v q0 hv hq0
        · dsimp only
          rw [List.length_append, List.length_singleton]
          exact (by first | ((repeat (first | exact trivial | exact rfl | apply Sub.cons | exact look_int rfl (by omega) | exact look_int rfl (by simp) | exact look_int rfl (by simp; omega))); done) | fail)
        · dsimp only
          rw [List.length_append, List.length_singleton, List.flatMap_append, List.map_append]
          have h1 : St (fps []) _ (tabsA ⟨cutL 7 l, .slice Aq tvs.length cq, tvs⟩ :: starL (xs.map tabsA) :: [row 27 8 (.slice A7 (xs.length + 1) c7) (xs.length + 1) (xs.flatMap lstCells ++ [.int .i64 l.first, .slice Aq tvs.length cq, .bool l.stim, .int .u8 l.ev, .int .u8 l.pre, .int .u8 l.pri, .bool l.on, .bool l.ch])]) w := (h.ext (X := row 37 1 (.slice Aq tvs.length cq) tvs.length tvs) (by first | ((repeat (first | exact Ext.head | apply Ext.tail)); done) | fail)).subl (by first | ((repeat (first | exact SubL.nil | apply SubL.keep | apply SubL.skip)); done) | fail) |>.perm (.cons _ (.swap _ _ _))
          exact (st_snoc h1).perm (.swap _ _ _)
    · have hx6 : xs.length = 4 := by omega
      (repeat (first | (refine i_dst ?_; (first | (refine i_move ?_; refine l_q rfl rfl rfl (q_move rfl) ?_) | (refine i_assign ?_; refine l_q rfl rfl rfl (q_assign rfl) ?_) | (refine i_load ?_; refine l_q rfl rfl rfl (by (exact q_ldcN tab rfl rfl rfl rfl (by assumption) rfl)) ?_) | (refine i_bin ?_; refine l_q rfl rfl rfl (by (first | exact q_lss rfl rfl | exact q_geq rfl rfl)) ?_) | (refine i_ix ?_; refine l_q rfl rfl rfl (by (exact q_indexAddr tab rfl rfl rfl rfl (by omega))) ?_) | (refine i_alloc ?_; (refine l_allocA tab rfl rfl (fun _ => ?_))))) | refine d_seq ?_ | refine c_region ?_ | refine l_nil ?_ | refine c_block ?_ | (refine i_q ?_; (first | refine d_then ?_ | refine d_then_exit ?_ | refine t_then_exit ?_ | refine t_block_eq rfl ?_ | refine t_block_ne rfl ?_)) | refine c_skip ?_ | refine c_exit ?_ | refine c_ret ?_ | (refine i_store ?_; ((refine l_setN tab rfl rfl rfl rfl (List.cons_ne_nil _ _) rfl (by first | ((repeat (first | exact Upd.head | apply Upd.tail)); done) | fail) (by first | ((repeat (first | exact LSets.nil | exact LSet.zero | apply LSets.cons | apply LSet.succ)); done) | fail) ?_))) | (refine i_cond ?_; (refine c_ct rfl (by (exact decide_eq_true (by omega))) ?_))))
      refine t_hp (fun w h => h.subl (by first | ((repeat (first | exact SubL.nil | apply SubL.keep | apply SubL.skip)); done) | fail)) (t_ret1 Try.results4 rfl ⟨Ao, co, xs, rfl, ho1, ho2, rfl, ?_, hx3⟩)
      rw [hx2, hx6]
      rfl
  · (repeat (first | (refine i_dst ?_; (first | (refine i_move ?_; refine l_q rfl rfl rfl (q_move rfl) ?_) | (refine i_assign ?_; refine l_q rfl rfl rfl (q_assign rfl) ?_) | (refine i_bin ?_; refine l_q rfl rfl rfl (by (exact q_lss rfl rfl)) ?_))) | refine d_seq ?_ | refine c_region ?_ | refine l_nil ?_ | (refine i_q ?_; (first | refine d_then ?_ | refine d_then_exit ?_ | refine t_then_exit ?_ | refine t_block_eq rfl ?_)) | refine c_exit ?_ | refine c_ret ?_ | (refine i_cond ?_; (refine c_cf rfl (by (exact decide_eq_false (by omega))) ?_))))
    refine t_hp (fun w h => h.subl (by first | ((repeat (first | exact SubL.nil | apply SubL.keep | apply SubL.skip)); done) | fail)) (t_ret1 Try.results4 rfl ⟨Ao, co, xs, rfl, ho1, ho2, rfl, ?_, hx3⟩)
    rw [hx2, fewL, List.take_of_length_le (by omega), List.take_of_length_le (by omega)]
end Go.Proofs.Ytboccjdncdaakaa

/-
  TopStims' plain law, its second half: what is taken, what is written.
-/

set_option linter.unusedVariables false
set_option maxRecDepth 100000
namespace Go.Proofs.Ytboccjdncdaakaa
open Go.RowKit
attribute [local irreducible] TL TC TQ TK TO Qt TA
/-- A slice of bytes in a cell. -/
def InByT (S : Nat → Prop) (w0 : World) (v : List Value) (l : List Int) : Prop := ∃ A c, v = [.slice A l.length c] ∧ Ro S w0 (roB A l.length l) ∧ l.length ≤ c ∧ c ≤ maxLen
/-- The bytes of a table: of those that come, or none. -/
def ownT (bs : List (List Int)) (j : Nat) : List Int := match bs[j]? with
  | some b => spl (List.replicate 7 0) 0 (b.take (min b.length 7))
  | none => List.replicate 7 0
theorem ownT_len (bs : List (List Int)) (j : Nat) : (ownT bs j).length = 7 := by
  unfold ownT
  split
  · rename_i b _
    rw [spl]
    simp
    omega
  · simp
theorem ownT_oct {bs : List (List Int)} {j : Nat} (h : ∀ b ∈ bs, Oct b) : Oct (ownT bs j) := by
  have hz : Oct (List.replicate 7 (0 : Int)) := fun x hx => by rw [(List.mem_replicate.1 hx).2]; omega
  unfold ownT
  split
  · rename_i b hb
    exact hz.spl ((h b (List.mem_of_getElem? hb)).take _)
  · exact hz
def ownsT (bs : List (List Int)) (f n : Nat) : List (List Int) := (List.range n).map fun k => ownT bs (f + k)
theorem ownsT_len (bs : List (List Int)) (f n : Nat) : (ownsT bs f n).length = n := by simp [ownsT]
theorem ownsT_get {bs : List (List Int)} {f n k : Nat} (h : k < n) : (ownsT bs f n)[k]? = some (ownT bs (f + k)) := by simp [ownsT, h]
theorem ownsT_take {bs : List (List Int)} {f n k : Nat} (h : k < n) : (ownsT bs f n).take (k + 1) = (ownsT bs f n).take k ++ [ownT bs (f + k)] := by rw [List.take_add_one, ownsT_get h]; rfl
/-! ### Take -/
theorem take_mono (ls : List ListI) {i j : Nat} (h : i ≤ j) : totT (ls.take i) ≤ totT (ls.take j) := by
  have : ls.take i = (ls.take j).take i := by rw [List.take_take, Nat.min_eq_left h]
  rw [this]
  exact totT_take_le _ _
theorem of_laid {ls : List ListI} (h : LaidOk ls) {i k : Nat} {l : ListI} (hl : ls[i]? = some l) (hk : k < l.tabs.length) : ofM (totT (ls.take i) + k) ls = some (i, k) := by
  have hi := (List.getElem?_eq_some_iff.1 hl).1
  have hlen := h.len
  have htot := h.tot
  have hsucc : ∀ {j : Nat} {x : ListI}, ls[j]? = some x → totT (ls.take (j + 1)) = totT (ls.take j) + x.tabs.length := fun {j x} hx => by
    rw [List.take_add_one, hx]
    exact totT_snoc _ _
  have hall := totT_take_le ls (i + 1)
  have h1 := hsucc hl
  have hkm : ∀ {j : Nat} {x : ListI}, ls[j]? = some x → kM (totT (ls.take i) + k) x.first = ((totT (ls.take i) + k : Nat) : Int) - (totT (ls.take j) : Nat) := fun {j x} hx => by
    have := totT_take_le ls j
    rw [kM, h.first j x hx]
    exact wr_i64 (by omega)
  have htk : ls.take 4 = ls := List.take_of_length_le hlen
  have hhit : hitM (totT (ls.take i) + k) l = true := by
    obtain ⟨a, b, -⟩ := h.all l (List.mem_of_getElem? hl)
    rw [hitM, a, b, hkm hl]
    simp
    omega
  have := ofM_hit (code := totT (ls.take i) + k) (ls := ls) (k := i) (l := l) (fun j x hj hx => by
    rw [htk] at hx
    have h2 := hsucc hx
    have h3 := take_mono ls (i := j + 1) (j := i) (by omega)
    rw [hitM, hkm hx]
    simp
    omega) (by rw [htk]; exact hl) hhit
  rw [this, hkm hl]
  congr 2
  omega
theorem take_laid {ls : List ListI} (h : LaidOk ls) {i k : Nat} {l : ListI} (hl : ls[i]? = some l) (hk : k < l.tabs.length) {X : Sm} (bs : List (List Int)) (f : Nat) (hX : X.getD i [] = (ownsT bs f l.tabs.length).take k) : takeS X ls (totT (ls.take i) + k) (ownT bs (f + k)) = (X.set i ((ownsT bs f l.tabs.length).take (k + 1)), true) := by
  obtain ⟨-, -, -, hlo⟩ := h.all l (List.mem_of_getElem? hl)
  have ht : l.tabs[k]? = some l.tabs[k] := List.getElem?_eq_getElem hk
  have hb : ¬ (ownT bs (f + k)).length < needsM (tabM ls i k) := by
    have : tabM ls i k = l.tabs[k] := by simp [tabM, hl, List.getD_eq_getElem?_getD, ht]
    rw [this, ownT_len]
    have := (hlo.tab _ (List.getElem_mem hk)).2.2
    omega
  rw [takeS_some (of_laid h hl hk) hb, ownsT_take hk, hX]
  by_cases h0 : k = 0
  · subst h0
    rw [if_pos rfl]
    rfl
  · rw [if_neg h0, if_pos]
    rw [List.length_take, ownsT_len]
    omega
/-! ### Memory of 64 plain bytes -/
structure Sh64 (M : Mm) : Prop where
  ok : MmOk M
  ram : M.ram.length = 64
  segs : M.segs = []
def okE (e : EntryI) : Bool := decide (e.area = 0 ∧ e.at_ + e.size ≤ 64)
theorem sh_area {M : Mm} (h : Sh64 M) (area : Nat) : areaM M 1 area = if area = 0 then some (M.ram, false) else none := by
  unfold areaM
  split
  · rfl
  · rw [h.segs]
    rfl
theorem sh_read {M : Mm} (h : Sh64 M) (e : EntryI) : (readM M 1 e.area e.at_ e.size).2 = 0 ↔ okE e = true := by
  unfold readM okE
  rw [if_neg (by omega), sh_area h, decide_eq_true_eq]
  by_cases h0 : e.area = 0
  · rw [if_pos h0]
    dsimp only
    rw [h.ram]
    split
    · dsimp only
      omega
    · dsimp only
      omega
  · rw [if_neg h0]
    dsimp only
    omega
theorem sh_write {M : Mm} (h : Sh64 M) {e : EntryI} {x : List Int} (hx : x.length = e.size) : ((writeM M 1 e.area e.at_ x).2 = 0 ↔ okE e = true) ∧ (okE e = true → Sh64 (writeM M 1 e.area e.at_ x).1) := by
  have hok := writeM_ok (who := 1) (area := e.area) (at_ := (e.at_ : Int)) (x := x) h.ok (by omega)
  unfold writeM at hok ⊢
  unfold okE
  rw [if_neg (by omega), sh_area h] at hok ⊢
  rw [decide_eq_true_eq]
  by_cases h0 : e.area = 0
  · rw [if_pos h0] at hok ⊢
    dsimp only at hok ⊢
    rw [h.ram, hx] at hok ⊢
    by_cases h1 : ((e.size : Nat) : Int) > ((64 : Nat) : Int) ∨ ((e.at_ : Nat) : Int) > ((64 : Nat) : Int) - ((e.size : Nat) : Int)
    · rw [if_pos h1] at hok ⊢
      dsimp only
      exact ⟨by omega, fun h2 => by omega⟩
    · rw [if_neg h1] at hok ⊢
      by_cases h2 : e.size = 0
      · rw [if_pos h2] at hok ⊢
        dsimp only
        exact ⟨by omega, fun _ => h⟩
      · rw [if_neg h2, if_neg (by simp)] at hok ⊢
        dsimp only at hok ⊢
        refine ⟨by omega, fun _ => ⟨hok, ?_, ?_⟩⟩
        · unfold setArea
          rw [if_pos h0]
          dsimp only
          rw [spl_len (by rw [h.ram, hx]; omega)]
          exact h.ram
        · unfold setArea
          rw [if_pos h0]
          exact h.segs
  · rw [if_neg h0]
    dsimp only
    exact ⟨by omega, fun h2 => by omega⟩
def okT (t : List EntryI) : Bool := t.all okE
theorem ent_ok : ∀ {t : List EntryI} {M : Mm} {b : List Int}, Sh64 M → needsM t ≤ b.length → if okT t = true then ∃ M', t.foldlM stepE (M, b) = some (M', b.drop (needsM t)) ∧ Sh64 M' else t.foldlM stepE (M, b) = none
  | [], M, b, h, _ => by
    rw [if_pos (show okT [] = true from rfl)]
    exact ⟨M, by simp [needsM], h⟩
  | e :: t, M, b, h, hn => by
    have hn' : needsM (e :: t) = e.size + needsM t := by simp [needsM]
    obtain ⟨h1, h2⟩ := sh_write h (e := e) (x := b.take e.size) (by rw [List.length_take]; omega)
    have e1 : okT (e :: t) = (okE e && okT t) := rfl
    rw [e1, List.foldlM_cons]
    by_cases h3 : okE e = true
    · have h4 : stepE (M, b) e = some ((writeM M 1 e.area e.at_ (b.take e.size)).1, b.drop e.size) := by
        rw [stepE]
        dsimp only
        rw [if_pos (h1.2 h3)]
      rw [h4, h3, Bool.true_and]
      have ih := ent_ok (t := t) (b := b.drop e.size) (h2 h3) (by rw [List.length_drop]; omega)
      rw [List.drop_drop, ← hn'] at ih
      exact ih
    · have h4 : stepE (M, b) e = none := by
        rw [stepE]
        dsimp only
        rw [if_neg]
        intro h5
        exact h3 (h1.1 h5)
      rw [h4, if_neg (by simp [h3])]
      rfl
theorem tab_ok {t : List EntryI} {M : Mm} {b : List Int} (h : Sh64 M) (hn : needsM t ≤ b.length) : if okT t = true then ∃ M', stepT M (t, b) = some M' ∧ Sh64 M' else stepT M (t, b) = none := by
  have h1 := ent_ok h hn
  have e1 : stepT M (t, b) = (t.foldlM stepE (M, b)).map (·.1) := by
    rw [stepT]
    dsimp only
    rw [if_neg (by omega)]
  split at h1
  · rename_i h2
    obtain ⟨M', h3, h4⟩ := h1
    rw [if_pos h2, e1, h3]
    exact ⟨M', rfl, h4⟩
  · rename_i h2
    rw [if_neg h2, e1, h1]
    rfl
theorem writes_ok : ∀ {tabs : List (List EntryI)} {bs : List (List Int)} {M : Mm}, Sh64 M → bs.length = tabs.length → (∀ t ∈ tabs, needsM t ≤ 7) → (∀ b ∈ bs, b.length = 7) → if tabs.all okT = true then ∃ M', writesM M tabs bs = some M' ∧ Sh64 M' else writesM M tabs bs = none
  | [], [], M, h, _, _, _ => by
    rw [if_pos (show List.all [] okT = true from rfl)]
    exact ⟨M, rfl, h⟩
  | [], _ :: _, _, _, hl, _, _ => by simp at hl
  | _ :: _, [], _, _, hl, _, _ => by simp at hl
  | t :: tabs, b :: bs, M, h, hl, hn, hb => by
    have h1 := tab_ok (t := t) (b := b) h (by rw [hb b (by simp)]; exact hn t (by simp))
    have e1 : writesM M (t :: tabs) (b :: bs) = (stepT M (t, b)).bind (fun M' => writesM M' tabs bs) := rfl
    have e2 : (t :: tabs).all okT = (okT t && tabs.all okT) := rfl
    rw [e1, e2]
    split at h1
    · rename_i h2
      obtain ⟨M', h3, h4⟩ := h1
      rw [h3, h2, Bool.true_and]
      exact writes_ok (tabs := tabs) h4 (by simpa using hl) (fun t ht => hn t (by simp [ht])) (fun b hb' => hb b (by simp [hb']))
    · rename_i h2
      rw [h1, if_neg (by simp [h2])]
      rfl
/-! ### Apply -/
theorem apply_all {ls : List ListI} (h : LaidOk ls) {i : Nat} {l : ListI} (hl : ls[i]? = some l) {X : Sm} {M : Mm} (hM : Sh64 M) (bs : List (List Int)) (f : Nat) (hX : X.getD i [] = ownsT bs f l.tabs.length) : applyS X M i l.tabs = (X.set i [], (match writesM M l.tabs (ownsT bs f l.tabs.length) with | some M' => M' | none => M), l.tabs.all okT) := by
  obtain ⟨-, -, hp, hlo⟩ := h.all l (List.mem_of_getElem? hl)
  have hi := (List.getElem?_eq_some_iff.1 hl).1
  have hlen := h.len
  have hf : fullS X i l.tabs = true := by
    rw [fullS, Int.toNat_natCast, hX, ownsT_len, decide_eq_true_eq]
    omega
  have hw := writes_ok (tabs := l.tabs) (bs := ownsT bs f l.tabs.length) hM (ownsT_len _ _ _) (fun t ht => (hlo.tab t ht).2.2) (fun b hb => by
    obtain ⟨k, _, rfl⟩ := List.mem_map.1 hb
    exact ownT_len _ _)
  rw [applyS, hf, if_pos rfl, Int.toNat_natCast, hX]
  split at hw
  · rename_i h2
    obtain ⟨M', h3, h4⟩ := hw
    rw [h3, h2]
  · rename_i h2
    rw [hw]
    simp at h2 ⊢
    exact h2
theorem apply_not {X : Sm} {M : Mm} {i : Nat} {tabs : List (List EntryI)} (hX : (X.getD i []).length ≠ tabs.length) : applyS X M i tabs = (X, M, false) := by
  have hf : fullS X i tabs = false := by
    rw [fullS, Int.toNat_natCast, decide_eq_false_iff_not]
    omega
  rw [applyS, hf]
  rfl
theorem getD_set_ne {X : Sm} {i j : Nat} {a : List (List Int)} (h : i ≠ j) : (X.set i a).getD j [] = X.getD j [] := by
  rw [List.getD_eq_getElem?_getD, List.getD_eq_getElem?_getD, List.getElem?_set_ne h]
theorem getD_set_self {X : Sm} {i : Nat} {a : List (List Int)} (h : i < X.length) : (X.set i a).getD i [] = a := by
  rw [List.getD_eq_getElem?_getD, List.getElem?_set_self h]
  rfl
theorem apply_laid {L : List ListI} (h : LaidOk L) {i : Nat} {l : ListI} (hl : L[i]? = some l) {X X' : Sm} {M : Mm} (hM : Sh64 M) (bs : List (List Int)) (f : Nat) (all : Bool) (hX : X' = X.set i ((ownsT bs f l.tabs.length).take (if all = true then l.tabs.length else min l.tabs.length (l.tabs.length - 1)))) (hi : i < X.length) (hnil : ∀ j, i ≤ j → X.getD j [] = []) :
    ∃ X3 M3, applyS X' M i l.tabs = (X3, M3, l.tabs.all okT && all) ∧ (∀ j, i + 1 ≤ j → X3.getD j [] = []) ∧ Sh64 M3 ∧ if (l.tabs.all okT && all) = true then writesM M l.tabs (ownsT bs f l.tabs.length) = some M3 else M3 = M := by
  obtain ⟨-, -, hp, hlo⟩ := h.all l (List.mem_of_getElem? hl)
  subst hX
  cases all with
  | true =>
    rw [if_pos rfl, List.take_of_length_le (by rw [ownsT_len]; omega)]
    have h1 := apply_all h hl hM bs f (X := X.set i (ownsT bs f l.tabs.length)) (getD_set_self hi)
    have hw := writes_ok (tabs := l.tabs) (bs := ownsT bs f l.tabs.length) hM (ownsT_len _ _ _) (fun t ht => (hlo.tab t ht).2.2) (fun b hb => by
      obtain ⟨k, _, rfl⟩ := List.mem_map.1 hb
      exact ownT_len _ _)
    refine ⟨_, _, by rw [h1, Bool.and_true], fun j hj => ?_, ?_, ?_⟩
    · rw [getD_set_ne (by omega), getD_set_ne (by omega)]
      exact hnil j (by omega)
    · split at hw
      · obtain ⟨M', h3, h4⟩ := hw
        rw [h3]
        exact h4
      · rw [hw]
        exact hM
    · rw [Bool.and_true]
      split at hw
      · rename_i h2
        obtain ⟨M', h3, h4⟩ := hw
        rw [if_pos h2, h3]
      · rename_i h2
        rw [if_neg h2, hw]
  | false =>
    rw [if_neg (by simp)]
    have h1 := apply_not (M := M) (i := i) (tabs := l.tabs) (X := X.set i ((ownsT bs f l.tabs.length).take (min l.tabs.length (l.tabs.length - 1)))) (by rw [getD_set_self hi, List.length_take, ownsT_len]; omega)
    refine ⟨_, _, by rw [h1, Bool.and_false], fun j hj => ?_, hM, ?_⟩
    · rw [getD_set_ne (by omega)]
      exact hnil j (by omega)
    · rw [Bool.and_false, if_neg (by simp)]
end Go.Proofs.Ytboccjdncdaakaa

/-
  Frames of few bytes: known, May, walked.
-/

set_option linter.unusedVariables false
set_option maxRecDepth 100000
namespace Go.Proofs.Ytboccjdncdaakaa
open Go.RowKit
attribute [local irreducible] TL TC TQ TK TO Qt TA
/-! ### Frames -/
def pad8 (a : List Int) : List Int := a ++ List.replicate (8 - a.length) 0
def frC (id : Nat) (a : List Int) : List Value := .int .u32 id :: .bool false :: .int .i64 a.length :: bv (pad8 a)
def frV (id : Nat) (a : List Int) : Value := .agg (frC id a).toArray
attribute [local irreducible] blk row bytesA starL memA segA roB
theorem known_spec (id : Nat) (hid : id ≤ 2047) (w : World) : Calls Try.prog 36 #[.int .u32 id, .bool false] w (Ret w [] fun v B => v = .bool true ∧ B = []) := by
  refine enter (vs := [.int .u32 id, .bool false]) Try.func36 rfl Try.ntmps36 rfl (Hold.nil w) ?_
  (repeat (first | (refine i_dst ?_; (first | (refine i_move ?_; refine l_q rfl rfl rfl (q_move rfl) ?_) | (refine i_assign ?_; refine l_q rfl rfl rfl (q_assign rfl) ?_))) | refine d_seq ?_ | refine c_region ?_ | refine l_nil ?_ | (refine i_q ?_; (refine d_then ?_)) | refine c_skip ?_ | (refine i_cond ?_; (refine c_cf rfl (by (rfl)) ?_))))
  refine i_dst (l_q rfl rfl rfl (q_shr (m := (id : Int)) (s := 11) rfl rfl (r := 0) (by show (id : Int).fdiv 2048 = 0; rw [Int.fdiv_eq_ediv_of_nonneg _ (by omega)]; omega)) ?_)
  (repeat (first | (refine i_dst ?_; (first | (refine i_assign ?_; refine l_q rfl rfl rfl (q_assign rfl) ?_) | (refine i_bin ?_; refine l_q rfl rfl rfl (by (exact q_eql rfl rfl)) ?_))) | refine l_nil ?_ | (refine i_q ?_; (refine d_then ?_)) | refine c_ret ?_))
  exact t_ret1 Try.results36 rfl ⟨rfl, rfl⟩
end Go.Proofs.Ytboccjdncdaakaa

/-
  Layer 19: what lists are to it; few, and gather.New, walked.
-/

set_option linter.unusedVariables false
set_option maxRecDepth 100000
namespace Go.Proofs.Ytboccjdncdaakaa
open Go.RowKit
attribute [local irreducible] TL TC TQ TK TO Qt TA
/-- A list, as far as its cells tell. -/
structure LC where
  first : Int
  A : Option Addr
  n : Nat
  c : Nat
  stim : Bool
  ev : Nat
  pre : Nat
  pri : Nat
  on : Bool
  ch : Bool
def lcC (x : LC) : List Value := [.int .i64 x.first, .slice x.A x.n x.c, .bool x.stim, .int .u8 x.ev, .int .u8 x.pre, .int .u8 x.pri, .bool x.on, .bool x.ch]
def InLC (v : List Value) (x : LC) : Prop := v = lcC x ∧ x.n ≤ x.c ∧ x.c ≤ maxLen
/-- Which table is which place of which list. -/
def plL : Nat → List LC → List (Option (Nat × Nat))
  | _, [] => []
  | i, x :: r => (List.range x.n).map (fun k => if x.stim then none else some (i, k)) ++ plL (i + 1) r
theorem plL_snoc : ∀ (i : Nat) (l : List LC) (x : LC), plL i (l ++ [x]) = plL i l ++ (List.range x.n).map (fun k => if x.stim then none else some (i + l.length, k))
  | i, [], x => by simp [plL]
  | i, y :: l, x => by
    rw [List.cons_append, plL, plL, plL_snoc (i + 1) l x, List.append_assoc, List.length_cons, show i + 1 + l.length = i + (l.length + 1) by omega]
theorem plL_lt {n : Nat} : ∀ (i : Nat) (l : List LC) (t a k : Nat), i + l.length ≤ n → (plL i l)[t]? = some (some (a, k)) → a < n
  | i, [], t, a, k, _, h => by simp [plL] at h
  | i, x :: l, t, a, k, hn, h => by
    rw [plL] at h
    rw [List.length_cons] at hn
    by_cases ht : t < x.n
    · rw [List.getElem?_append_left (by simpa using ht)] at h
      simp only [List.getElem?_map, List.getElem?_range ht, Option.map_some] at h
      injection h with h
      split at h
      · cases h
      · injection h with h
        injection h with h _
        omega
    · rw [List.getElem?_append_right (by simp; omega)] at h
      exact plL_lt (i + 1) l _ a k (by omega) h
theorem plL_len : ∀ (i : Nat) (l : List LC), (∀ x ∈ l, x.n ≤ 1000) → (plL i l).length ≤ 1000 * l.length
  | i, [], _ => by simp [plL]
  | i, x :: l, h => by
    have h1 := plL_len (i + 1) l (fun y hy => h y (by simp [hy]))
    have h2 := h x (by simp)
    rw [plL, List.length_append, List.length_map, List.length_range, List.length_cons]
    omega
/-- The map of places. -/
def pf (P : List (Option (Nat × Nat))) : Value → Option Value
  | .int _ t => if 0 ≤ t then (P[t.toNat]?.join).map (fun y => .agg #[.int .i64 y.1, .int .i64 y.2]) else none
  | _ => none
theorem pf_none (P : List (Option (Nat × Nat))) : pf (P ++ [none]) = pf P := by
  funext v
  unfold pf
  split
  · rename_i k t
    by_cases ht : 0 ≤ t
    · rw [if_pos ht, if_pos ht]
      congr 1
      by_cases h1 : t.toNat < P.length
      · rw [List.getElem?_append_left h1]
      · rw [List.getElem?_append_right (by omega), List.getElem?_eq_none (by omega : P.length ≤ t.toNat)]
        rcases Nat.eq_zero_or_pos (t.toNat - P.length) with e | e
        · rw [e]; rfl
        · rw [List.getElem?_eq_none (by simp; omega)]
    · rw [if_neg ht, if_neg ht]
  · rfl
theorem pf_nil : pf [] = fun _ => none := by
  funext v
  unfold pf
  split
  · simp
  · rfl
theorem pf_ok (P : List (Option (Nat × Nat))) (a k : Nat) (v : Value) (hv : MapKept.IsKey (.int .i64) v) : (v = .int .i64 (P.length : Nat) → pf (P ++ [some (a, k)]) v = some (.agg #[.int .i64 a, .int .i64 k])) ∧ (v ≠ .int .i64 (P.length : Nat) → pf (P ++ [some (a, k)]) v = pf P v) := by
  refine ⟨fun h => ?_, fun h => ?_⟩
  · subst h
    simp [pf]
  · unfold pf
    split
    · rename_i k' t
      have hk : k' = .i64 := hv
      subst hk
      by_cases ht : 0 ≤ t
      · rw [if_pos ht, if_pos ht]
        congr 1
        have hne : t.toNat ≠ P.length := fun e => h (by rw [← e, Int.toNat_of_nonneg ht])
        by_cases h1 : t.toNat < P.length
        · rw [List.getElem?_append_left h1]
        · rw [List.getElem?_eq_none (by simp; omega), List.getElem?_eq_none (by omega)]
      · rw [if_neg ht, if_neg ht]
    · rfl
theorem pf_at {P : List (Option (Nat × Nat))} {t : Int} (h0 : 0 ≤ t) : pf P (.int .i64 t) = (P[t.toNat]?.join).map (fun y => .agg #[.int .i64 y.1, .int .i64 y.2]) := by
  simp only [pf]
  rw [if_pos h0]
/-- What came of a list. -/
structure OpV where
  p : PartV
  lost : Bool
  many : Nat
def opC (x : OpV) : List Value := [x.p.v, .bool x.lost, .int .i64 x.many]
structure GaV where
  mb : Nat
  lv : Value
  P : List (Option (Nat × Nat))
  xs : List OpV
structure GL where
  many : Nat
  got : List (List Int)
  lost : Bool
def absG (xs : List OpV) : List GL := xs.map fun x => ⟨x.many, x.p.bs, x.lost⟩
def newG (ls : List LC) : List GL := ls.map fun x => ⟨x.n, [], false⟩
def opN (x : LC) : OpV := ⟨nilP, false, x.n⟩
theorem st_parts {S : Nat → Prop} {w0 w : World} {F : List Asn} (h : St S w0 F w) : ∀ n, St S w0 (starL (List.replicate n (partA nilP)) :: F) w
  | 0 => st_star0 h
  | n + 1 => by
    rw [List.replicate_succ']
    exact st_snoc (part_nil (st_parts h n))
theorem rowL19 : RowT tab 22 27 8 40 (.agg #[.int .i64 0, .slice none 0 0, .bool false, .int .u8 0, .int .u8 0, .int .u8 0, .bool false, .bool false]) := ⟨rfl, rfl, rfl, by decide⟩
def Few19 (v : Value) (B : List Asn) : Prop := ∃ (A : Option Addr) (c : Nat) (xs : List LC), v = .slice A xs.length c ∧ xs.length ≤ c ∧ c ≤ maxLen ∧ B = [row 27 8 (.slice A xs.length c) xs.length (xs.flatMap lcC)] ∧ xs.length ≤ 6 ∧ ∀ x ∈ xs, x.n ≤ 20 ∧ x.n ≤ x.c ∧ x.c ≤ maxLen
/-- Lists in a row of one's own, or of others. -/
theorem lc_in {S : Nat → Prop} {w : World} {A : Option Addr} {n c : Nat} {xs : List LC} (hn : xs.length = n) (h : Ro S w (row 27 8 (.slice A n c) n (xs.flatMap lcC))) (hx : ∀ x ∈ xs, x.n ≤ x.c ∧ x.c ≤ maxLen) : InS S w 8 InLC A n xs :=
  InS.rows (xs.map lcC) hn (by simpa using hn) (fun r hr => by obtain ⟨x, _, rfl⟩ := List.mem_map.1 hr; rfl) (by rw [← List.flatMap_def]; exact h.rowV) (fun i r x hr hx' => by
    simp only [List.getElem?_map, hx', Option.map_some, Option.some.injEq] at hr
    exact ⟨hr.symm, hx x (List.mem_of_getElem? hx')⟩)
theorem lc_of {S : Nat → Prop} {w : World} {A : Option Addr} {n : Nat} {ls : List ListI} (h : InS S w 8 (InList S w) A n ls) : ∃ xs, InS S w 8 InLC A n xs := by
  obtain ⟨hlen, rows, h1, h2, h3, h4⟩ := h
  have hx : ∀ r ∈ rows, ∃ x, InLC r x := fun r hr => by
    obtain ⟨i, hi⟩ := List.getElem?_of_mem hr
    have hil := (List.getElem?_eq_some_iff.1 hi).1
    obtain ⟨l, hl⟩ : ∃ l, ls[i]? = some l := ⟨_, List.getElem?_eq_getElem (by omega)⟩
    obtain ⟨⟨A', n', c', e, -, q1, q2⟩, -, -, -, -⟩ := h4 i r l hi hl
    exact ⟨⟨l.first, A', n', c', l.stim, l.ev, l.pre, l.pri, l.on, l.ch⟩, e, q1, q2⟩
  obtain ⟨xs, hxl, hxs⟩ : ∃ xs : List LC, xs.length = rows.length ∧ ∀ (i : Nat) r x, rows[i]? = some r → xs[i]? = some x → InLC r x := by
    clear h1 h2 h3 h4 hlen
    induction rows with
    | nil => exact ⟨[], rfl, fun i r x h => by simp at h⟩
    | cons r rows ih =>
      obtain ⟨xs, q1, q2⟩ := ih (fun r hr => hx r (by simp [hr]))
      obtain ⟨x, hx0⟩ := hx r (by simp)
      refine ⟨x :: xs, by simp [q1], fun i r' x' hr hx' => ?_⟩
      cases i with
      | zero => simp at hr hx'; subst hr hx'; exact hx0
      | succ i => exact q2 i r' x' (by simpa using hr) (by simpa using hx')
  exact ⟨xs, by omega, rows, h1, h2, h3, hxs⟩
attribute [local irreducible] blk row bytesA starL memA segA roB
end Go.Proofs.Ytboccjdncdaakaa

/-
  Layer 19: gather.New, walked.
-/

set_option linter.unusedVariables false
set_option maxRecDepth 100000
namespace Go.Proofs.Ytboccjdncdaakaa
open Go.RowKit
attribute [local irreducible] TL TC TQ TK TO Qt TA
attribute [local irreducible] blk row bytesA starL memA segA roB
attribute [local irreducible] mapA partA
def opF (ls : List LC) : List Value := ls.flatMap fun x => [.slice none 0 0, .bool false, .int .i64 x.n]
theorem opF_eq (ls : List LC) : (ls.map opN).flatMap opC = opF ls := by
  simp only [opF, List.flatMap_map]
  rfl
theorem parts_eq (ls : List LC) : (ls.map opN).map (fun x => partA x.p) = List.replicate ls.length (partA nilP) := by
  induction ls with
  | nil => rfl
  | cons x l ih => rw [List.map_cons, List.map_cons, ih]; rfl

end Go.Proofs.Ytboccjdncdaakaa

/-
  Layer 19: gather.Take, walked.
-/

set_option linter.unusedVariables false
set_option maxRecDepth 100000
namespace Go.Proofs.Ytboccjdncdaakaa
open Go.RowKit
attribute [local irreducible] TL TC TQ TK TO Qt TA
/-! ### What Take says -/
def addG (S : List GL) (i : Nat) (s : GL) (b : List Int) : List GL × Option (Nat × Bool × List (List Int)) :=
  if s.got.length + 1 < s.many then (S.set i ⟨s.many, s.got ++ [b], s.lost⟩, none) else (S.set i ⟨s.many, [], s.lost⟩, some (i, s.lost, s.got ++ [b]))
def putG (S : List GL) (i k : Nat) (over : Bool) (s : GL) (b : List Int) : List GL × Option (Nat × Bool × List (List Int)) :=
  if k = 0 then addG S i ⟨s.many, [], over⟩ b
  else if over = true ∨ k ≠ s.got.length then (S.set i ⟨s.many, [], s.lost⟩, none)
  else addG S i s b
def takeG (P : List (Option (Nat × Nat))) (S : List GL) (kind code : Nat) (b : List Int) : List GL × Option (Nat × Bool × List (List Int)) :=
  if kind = 4 then match P[if 64 ≤ code then code - 64 else code]?.join with
    | none => (S, none)
    | some (i, k) => match S[i]? with
      | none => (S, none)
      | some s => putG S i k (decide (64 ≤ code)) s b
  else (S, none)
def sI : Option (Nat × Bool × List (List Int)) → Nat
  | none => 0
  | some y => y.1
def sL : Option (Nat × Bool × List (List Int)) → Bool
  | none => false
  | some y => y.2.1
def sB : Option (Nat × Bool × List (List Int)) → List (List Int)
  | none => []
  | some y => y.2.2
def GOk (S : List GL) : Prop := ∀ s ∈ S, s.got.length ≤ s.many ∧ s.many ≤ 1000
def PlOk (P : List (Option (Nat × Nat))) (n : Nat) : Prop := ∀ (t a k : Nat), P[t]? = some (some (a, k)) → a < n
theorem GOk.set {S : List GL} (h : GOk S) {i : Nat} {s : GL} (hs : s.got.length ≤ s.many ∧ s.many ≤ 1000) : GOk (S.set i s) := fun t ht => by
  rcases List.mem_or_eq_of_mem_set ht with h1 | h1
  · exact h t h1
  · subst h1; exact hs
theorem GOk.add {S : List GL} (h : GOk S) {i : Nat} {s : GL} {b : List Int} (hs : s.many ≤ 1000) : GOk (addG S i s b).1 := by
  unfold addG
  split
  · exact h.set ⟨by simp; omega, hs⟩
  · exact h.set ⟨by simp, hs⟩
theorem GOk.take {P : List (Option (Nat × Nat))} {S : List GL} (h : GOk S) {kind code : Nat} {b : List Int} : GOk (takeG P S kind code b).1 := by
  unfold takeG
  split
  · split
    · exact h
    · split
      · exact h
      · rename_i s hs
        have := (h s (List.mem_of_getElem? hs)).2
        unfold putG
        split
        · exact h.add this
        · split
          · exact h.set ⟨by simp, this⟩
          · exact h.add this
  · exact h
theorem length_takeG {P : List (Option (Nat × Nat))} {S : List GL} {kind code : Nat} {b : List Int} : (takeG P S kind code b).1.length = S.length := by
  unfold takeG
  split
  · split
    · rfl
    · split
      · rfl
      · unfold putG addG
        repeat' split
        all_goals simp
  · rfl
/-! ### One list's part, taken out, and put back -/
theorem flat_take (xs : List OpV) {i : Nat} {y : OpV} (h : xs[i]? = some y) : xs.flatMap opC = (xs.take i).flatMap opC ++ opC y ++ (xs.drop (i + 1)).flatMap opC := by
  obtain ⟨hi, e⟩ := List.getElem?_eq_some_iff.1 h
  have h1 : xs = xs.take i ++ y :: xs.drop (i + 1) := by
    rw [← e, ← List.drop_eq_getElem_cons hi, List.take_append_drop]
  conv => lhs; rw [h1]
  rw [List.flatMap_append, List.flatMap_cons, List.append_assoc]
theorem flatG_set (xs : List OpV) {i : Nat} (z : OpV) (h : i < xs.length) : (xs.set i z).flatMap opC = (xs.take i).flatMap opC ++ opC z ++ (xs.drop (i + 1)).flatMap opC := by
  rw [List.set_eq_take_append_cons_drop, if_pos h, List.flatMap_append, List.flatMap_cons, List.append_assoc]
theorem len_opC (xs : List OpV) : (xs.flatMap opC).length = xs.length * 3 := by
  induction xs with
  | nil => rfl
  | cons x l ih => rw [List.flatMap_cons, List.length_append, ih, List.length_cons]; simp [opC]; omega
theorem lset_pre {x v : Value} {l : List Value} : ∀ (pre : List Value), LSet (pre ++ x :: l) pre.length v (pre ++ v :: l)
  | [] => .zero
  | y :: pre => .succ (lset_pre pre)
section
variable {S : Nat → Prop} {w0 w : World} {p i : Nat} {g : GaV} {y : OpV} {F : List Asn}
end
theorem absG_set (xs : List OpV) (i : Nat) (z : OpV) : absG (xs.set i z) = (absG xs).set i ⟨z.many, z.p.bs, z.lost⟩ := by simp [absG, List.map_set]
theorem absG_get {xs : List OpV} {i : Nat} {y : OpV} (h : xs[i]? = some y) : (absG xs)[i]? = some ⟨y.many, y.p.bs, y.lost⟩ := by simp [absG, h]
theorem res_cellM {P : Program} (T : Tab P) {env : Env} {hp : List Asn} {S : Nat → Prop} {w0 : World} {p b : Nat} {t t' : TypeId} {l : List Value} {dt : TypeDesc} {z : Value} {s y : Nat} (hp_ : look env p = some (.pointer (some ⟨b, 0, none⟩))) (ht : T.u t = some dt) (ha : aggB dt = true) (hz : T.i t = some (z, s, y)) (hi : blk b l t' ∈ hp) (hl : l.length = s) : resOf P env hp S w0 (.cell p t) (.agg l.toArray) := by
  obtain ⟨i, hi⟩ := List.getElem?_of_mem hi
  exact res_cell T i hp_ ht ha hz hi hl
section
variable {P : Program} {n : Nat} {S : Nat → Prop} {w0 : World} {Q : Exit → Act → World → Prop} {env : Env} {hp : List Asn}
/-- What follows two ways, said once. -/
theorem d_if_join {α : Type} {c : Operand} {x y rest : Code} (p : α → Prop) (E : α → Env) (ks : List Nat) {pe : Env} (hk : Pick env ks pe) (H : α → List Asn) (h : ∀ a, p a → TC P n S w0 Q rest (E a ++ pe) (H a))
    (k : ∀ Q' : Exit → Act → World → Prop, (∀ a, p a → ∀ env hp, Sub (E a ++ pe) env → (∀ w, St S w0 hp w → St S w0 (H a) w) → TQ n S w0 Q' .normal env hp) → (∀ env hp, TQ n S w0 Q .ret env hp → TQ n S w0 Q' .ret env hp) → (∀ i env hp, TQ n S w0 Q (.exit i) env hp → TQ n S w0 Q' (.exit i) env hp) → TC P n S w0 Q' (.cond c x y) env hp) : TC P n S w0 (ThenC P rest Q) (.cond c x y) env hp :=
  k _ (fun a ha _ _ hE hH => d_then (c_sub hE hH (h a ha))) (fun _ _ h => d_then_ret h) (fun _ _ _ h => d_then_exit h)
end
attribute [local irreducible] blk row bytesA starL memA segA roB
attribute [local irreducible] mapA partA
end Go.Proofs.Ytboccjdncdaakaa

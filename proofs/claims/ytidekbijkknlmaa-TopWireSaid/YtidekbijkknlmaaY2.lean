/-
  Layer 19: gather.New, walked.
-/
import Derived.Test.YtidekbijkknlmaaY1
set_option linter.unusedVariables false
set_option maxRecDepth 100000
namespace Go.Proofs.Ytidekbijkknlmaa
open Go.RowKit
attribute [local irreducible] TL TC TQ TK TO Qt TA
attribute [local irreducible] blk row bytesA starL memA segA roB
attribute [local irreducible] mapA partA
def opF (ls : List LC) : List Value := ls.flatMap fun x => [.slice none 0 0, .bool false, .int .i64 x.n]
theorem opF_eq (ls : List LC) : (ls.map opN).flatMap opC = opF ls := by
  simp only [opF, List.flatMap_map]
  rfl
theorem parts_eq (ls : List LC) : (ls.map opN).map (fun x => partA x.p) = List.replicate ls.length (partA nilP) := by
  induction ls with
  | nil => rfl
  | cons x l ih => rw [List.map_cons, List.map_cons, ih]; rfl

set_option maxHeartbeats 8000000 in
theorem gnew_spec (A : Option Addr) (n c : Nat) (ls : List LC) (w : World) (hls : InS (fps []) w 8 InLC A n ls) (hnc : n ≤ c) (hcm : c ≤ maxLen) (hn : n ≤ 1000) (hsm : ∀ x ∈ ls, x.n ≤ 1000) :
    Calls Try.prog 13 #[.slice A n c] w (Ret w [] fun v B => ∃ p g, v = .pointer (some ⟨p, 0, none⟩) ∧ B = [gaA p g] ∧ g.P = plL 0 ls ∧ absG g.xs = newG ls) := by
  have hlen := hls.len
  refine enter (vs := [.slice A n c]) Try.func13 rfl Try.ntmps13 rfl (Hold.nil w) ?_
  have hmx : maxLen = 2 ^ 63 - 1 := rfl
  (repeat (first | (refine i_dst ?_; ((refine i_assign ?_; refine l_q rfl rfl rfl (q_assign rfl) ?_))) | refine d_seq ?_ | refine c_region ?_ | refine l_nil ?_ | (refine i_q ?_; (refine d_then ?_))))
  refine l_op rfl (fun K hK => e_mkmap (.int .i64) rfl (fun mb => hK _ _ ?_))
  clear hK
  (repeat (first | (refine i_dst ?_; (first | (refine i_move ?_; refine l_q rfl rfl rfl (q_move rfl) ?_) | (refine i_assign ?_; refine l_q rfl rfl rfl (q_assign rfl) ?_) | (refine i_blt ?_; refine l_q rfl rfl rfl (by (exact q_len tab rfl rfl)) ?_) | (refine i_box ?_; (refine l_boxA rfl rfl (fun _ => ?_))) | (refine l_q rfl rfl rfl (by ((apply iq_bld; ((exact q_bld tab rfl rfl rfl (by first | ((repeat (first | exact FillR.nil | exact LSets.nil | exact LSet.zero | exact CellsOf.agg | exact rfl | exact CellsOf.one rfl | apply FillR.cons | apply LSets.cons | apply LSet.succ)); done) | fail) (fun w => by kernel_rfl)))))) ?_))) | refine d_seq ?_ | refine c_region ?_ | refine l_nil ?_ | refine c_block ?_ | (refine i_q ?_; (refine d_then ?_))))
  rename_i p
  refine d_loop (T := Nat × List (Option (Nat × Nat)) × Value) [3, 11, 12] (fun t => [(13, .int .i64 t.1), (4, .int .i64 t.2.1.length)]) [] (fun t => [blk p [.map (some mb), t.2.2] 97, mapA (.int .i64) mb (pf t.2.1), row 101 3 t.2.2 t.1 (opF (ls.take t.1))]) (fun t => t.1 ≤ n ∧ t.2.1 = plL 0 (ls.take t.1)) (fun t => n - t.1) (0, [], .slice none 0 0) (by first | ((repeat (first | exact Pick.nil | exact rfl | apply Pick.cons)); done) | fail) ⟨Nat.zero_le _, rfl⟩ (by first | ((repeat (first | exact trivial | exact rfl | apply Sub.cons | exact look_int rfl (by omega) | exact look_int rfl (by simp) | exact look_int rfl (by simp; omega))); done) | fail) (fun w h => (st_nil (by rw [← pf_nil] at h; exact h) 101 3).psub (by first | ((repeat (first | exact PSub.nil | exact Ext.head | apply Ext.tail | apply PSub.cons)); done) | fail)) ?_
  rintro ⟨i, P, lv⟩ ⟨hi, hP⟩
  dsimp only at hi hP ⊢
  refine c_fact (p := ∃ Ao co, lv = .slice Ao i co ∧ i ≤ co ∧ co ≤ maxLen) (fun w h => ?_) ?_
  · obtain ⟨Ao, co, e1, e2, e3, -⟩ := row_slice (h.get (i := 2) rfl)
    exact ⟨Ao, co, e1, e2, e3⟩
  rintro ⟨Ao, co, rfl, ho1, ho2⟩
  have hPl : P.length ≤ 1000 * i := by
    rw [hP]
    refine Nat.le_trans (plL_len 0 _ (fun x hx => hsm x (List.mem_of_mem_take hx))) ?_
    rw [List.length_take]
    exact Nat.mul_le_mul_left _ (Nat.min_le_left _ _)
  by_cases hlt : i < n
  · obtain ⟨⟨first, At, nt, ct, stim, ev, pre, pri, on, ch⟩, hl⟩ : ∃ l, ls[i]? = some l := ⟨_, List.getElem?_eq_getElem (by omega)⟩
    have hnt : nt ≤ 1000 := hsm _ (List.mem_of_getElem? hl)
    obtain ⟨bA, oA, r, rfl, hrl, ⟨rfl, ht1, ht2⟩, hcell⟩ := hls.get (by omega) hl
    dsimp only at ht1 ht2
    unfold lcC at hcell
    dsimp only at hcell
    have htake : ls.take (i + 1) = ls.take i ++ [⟨first, At, nt, ct, stim, ev, pre, pri, on, ch⟩] := by
      rw [List.take_add_one, hl]; rfl
    have hil : (ls.take i).length = i := by rw [List.length_take]; omega
    have hPn := plL_snoc 0 (ls.take i) ⟨first, At, nt, ct, stim, ev, pre, pri, on, ch⟩
    rw [← htake, hil, ← hP] at hPn
    dsimp only at hPn
    simp only [Nat.zero_add] at hPn
    (repeat (first | (refine i_dst ?_; (first | (refine i_move ?_; refine l_q rfl rfl rfl (q_move rfl) ?_) | (refine i_assign ?_; refine l_q rfl rfl rfl (q_assign rfl) ?_) | (refine i_load ?_; refine l_q rfl rfl rfl (by (first | (exact q_ld1 tab rfl rfl rfl (by first | ((repeat (first | exact List.Mem.head _ | apply List.Mem.tail)); done) | fail) (by (rfl))) | exact q_ldcN tab rfl rfl rfl rfl (by assumption) rfl)) ?_) | (refine i_bin ?_; refine l_q rfl rfl rfl (by (exact q_lss rfl rfl)) ?_) | (refine i_blt ?_; refine l_q rfl rfl rfl (by (exact q_len tab rfl rfl)) ?_) | (refine i_ix ?_; refine l_q rfl rfl rfl (by (exact q_indexAddr tab rfl rfl rfl rfl (by omega))) ?_) | (refine i_alloc ?_; (refine l_allocA tab rfl rfl (fun _ => ?_))) | (refine l_q rfl rfl rfl (by ((apply iq_fld; (exact q_fieldAddr tab rfl rfl rfl rfl rfl rfl rfl)))) ?_))) | refine d_seq ?_ | refine c_region ?_ | refine l_nil ?_ | refine c_block ?_ | (refine i_q ?_; (refine d_then ?_)) | refine c_skip ?_ | (refine i_store ?_; ((refine l_setN tab rfl rfl rfl rfl (List.cons_ne_nil _ _) rfl (by first | ((repeat (first | exact Upd.head | apply Upd.tail)); done) | fail) (by first | ((repeat (first | exact LSets.nil | exact LSet.zero | apply LSets.cons | apply LSet.succ)); done) | fail) ?_))) | (refine i_cond ?_; (refine c_ct rfl (by (exact decide_eq_true (by omega))) ?_))))
    rename_i b6
    refine d_loop (T := Nat × List (Option (Nat × Nat))) [3, 5, 6, 11, 12, 13, 20] (fun t => [(21, .int .i64 t.1), (4, .int .i64 t.2.length)]) [blk b6 [.int .i64 first, .slice At nt ct, .bool stim, .int .u8 ev, .int .u8 pre, .int .u8 pri, .bool on, .bool ch] 45, blk p [.map (some mb), .slice Ao i co] 97, row 101 3 (.slice Ao i co) i (opF (ls.take i))] (fun t => [mapA (.int .i64) mb (pf t.2)]) (fun t => t.1 ≤ nt ∧ t.2 = P ++ (List.range t.1).map (fun k => if stim then none else some (i, k))) (fun t => nt - t.1) (0, P) (by first | ((repeat (first | exact Pick.nil | exact rfl | apply Pick.cons)); done) | fail) ⟨Nat.zero_le _, by simp⟩ (by first | ((repeat (first | exact trivial | exact rfl | apply Sub.cons | exact look_int rfl (by omega) | exact look_int rfl (by simp) | exact look_int rfl (by simp; omega))); done) | fail) (fun w h => h.psub (by first | ((repeat (first | exact PSub.nil | exact Ext.head | apply Ext.tail | apply PSub.cons)); done) | fail)) ?_
    rintro ⟨k, P1⟩ ⟨hk, hP1⟩
    dsimp only at hk hP1 ⊢
    have hP1l : P1.length = P.length + k := by rw [hP1]; simp
    by_cases hkn : k < nt
    · cases stim with
      | true =>
        (repeat (first | (refine i_dst ?_; (first | (refine i_move ?_; refine l_q rfl rfl rfl (q_move rfl) ?_) | (refine i_assign ?_; refine l_q rfl rfl rfl (q_assign rfl) ?_) | (refine i_load ?_; refine l_q rfl rfl rfl (by ((exact q_ld1 tab rfl rfl rfl (by first | ((repeat (first | exact List.Mem.head _ | apply List.Mem.tail)); done) | fail) (by (rfl))))) ?_) | (refine i_bin ?_; refine l_q rfl rfl rfl (by (first | exact q_lss rfl rfl | exact q_add rfl rfl (by (exact wr_i64 (by omega))))) ?_) | (refine l_q rfl rfl rfl (by (first | (apply iq_fld; (exact q_fieldAddr tab rfl rfl rfl rfl rfl rfl rfl)) | exact q_not rfl)) ?_))) | refine d_seq ?_ | refine c_region ?_ | refine l_nil ?_ | refine c_block ?_ | (refine i_q ?_; (first | refine d_then ?_ | refine t_then ?_ | refine t_block ?_)) | refine c_skip ?_ | (refine i_cond ?_; (first | refine c_ct rfl (by (exact decide_eq_true (by omega))) ?_ | refine c_cf rfl (by (rfl)) ?_))))
        refine k_again (k + 1, P1 ++ [none]) ⟨by dsimp only; omega, by dsimp only; rw [hP1, List.range_succ, List.map_append, List.append_assoc]; rfl⟩ (by dsimp only; omega) (by dsimp only; rw [List.length_append, List.length_singleton]; exact (by first | ((repeat (first | exact trivial | exact rfl | apply Sub.cons | exact look_int rfl (by omega) | exact look_int rfl (by simp) | exact look_int rfl (by simp; omega))); done) | fail)) (fun w h => ?_)
        dsimp only
        rw [pf_none]
        exact h.psub (by first | ((repeat (first | exact PSub.nil | exact Ext.head | apply Ext.tail | apply PSub.cons)); done) | fail)
      | false =>
        (repeat (first | (refine i_dst ?_; (first | (refine i_move ?_; refine l_q rfl rfl rfl (q_move rfl) ?_) | (refine i_assign ?_; refine l_q rfl rfl rfl (q_assign rfl) ?_) | (refine i_load ?_; refine l_q rfl rfl rfl (by ((exact q_ld1 tab rfl rfl rfl (by first | ((repeat (first | exact List.Mem.head _ | apply List.Mem.tail)); done) | fail) (by (rfl))))) ?_) | (refine i_bin ?_; refine l_q rfl rfl rfl (by (exact q_lss rfl rfl)) ?_) | (refine l_q rfl rfl rfl (by (first | (apply iq_fld; (exact q_fieldAddr tab rfl rfl rfl rfl rfl rfl rfl)) | (apply iq_nck; (exact q_nilck rfl)) | exact q_not rfl | (apply iq_bld; ((exact q_bld tab rfl rfl rfl (by first | ((repeat (first | exact FillR.nil | exact LSets.nil | exact LSet.zero | exact CellsOf.agg | exact rfl | exact CellsOf.one rfl | apply FillR.cons | apply LSets.cons | apply LSet.succ)); done) | fail) (fun w => by kernel_rfl)))))) ?_))) | refine d_seq ?_ | refine c_region ?_ | refine l_nil ?_ | refine c_block ?_ | (refine i_q ?_; (refine d_then ?_)) | refine c_skip ?_ | (refine i_cond ?_; (refine c_ct rfl (by (first | rfl | exact decide_eq_true (by omega))) ?_))))
        refine l_op rfl (fun K hK => e_mapset tab (f' := pf (P1 ++ [some (i, k)])) rfl rfl rfl rfl rfl rfl (by first | ((repeat (first | exact Upd.head | apply Upd.tail)); done) | fail) (fun k' hk' => pf_ok P1 i k k' hk') (hK _ _ ?_))
        clear hK
        (repeat (first | (refine i_dst ?_; (first | (refine i_move ?_; refine l_q rfl rfl rfl (q_move rfl) ?_) | (refine i_assign ?_; refine l_q rfl rfl rfl (q_assign rfl) ?_) | (refine i_bin ?_; refine l_q rfl rfl rfl (by (exact q_add rfl rfl (by (exact wr_i64 (by omega))))) ?_))) | refine c_region ?_ | refine l_nil ?_ | (refine i_q ?_; (first | refine d_then ?_ | refine t_then ?_ | refine t_block ?_))))
        exact k_again (k + 1, P1 ++ [some (i, k)]) ⟨by dsimp only; omega, by dsimp only; rw [hP1, List.range_succ, List.map_append, List.append_assoc]; rfl⟩ (by dsimp only; omega) (by dsimp only; rw [List.length_append, List.length_singleton]; exact (by first | ((repeat (first | exact trivial | exact rfl | apply Sub.cons | exact look_int rfl (by omega) | exact look_int rfl (by simp) | exact look_int rfl (by simp; omega))); done) | fail)) (fun w h => h.psub (by first | ((repeat (first | exact PSub.nil | exact Ext.head | apply Ext.tail | apply PSub.cons)); done) | fail))
    · have hkn' : k = nt := by omega
      subst hkn'
      rw [← hP1] at hPn
      (repeat (first | (refine i_dst ?_; ((refine i_bin ?_; refine l_q rfl rfl rfl (by (exact q_lss rfl rfl)) ?_))) | refine d_seq ?_ | refine c_region ?_ | refine l_nil ?_ | (refine i_q ?_; (first | refine d_then ?_ | refine d_then_exit ?_ | refine t_then_exit ?_ | refine t_block_eq rfl ?_)) | refine c_exit ?_ | (refine i_cond ?_; ((refine c_cf rfl (by (((first | (simp; done) | fail)))) ?_)))))
      (refine a_beginE mixed [blk b6 [.int .i64 first, .slice At k ct, .bool stim, .int .u8 ev, .int .u8 pre, .int .u8 pri, .bool on, .bool ch] 45, blk p [.map (some mb), .slice Ao i co] 97] [blk b6 [.int .i64 first, .slice At k ct, .bool stim, .int .u8 ev, .int .u8 pre, .int .u8 pri, .bool on, .bool ch] 45] 14 13 rfl (fun w h => h.subl (by first | ((repeat (first | exact SubL.nil | apply SubL.keep | apply SubL.skip)); done) | fail)) (fun w h => h.subl (by first | ((repeat (first | exact SubL.nil | apply SubL.keep | apply SubL.skip)); done) | fail)) ?_)
      ((refine a_q 0 rfl rfl rfl rfl rfl (by decide +kernel) (q_move rfl) ?_; refine a_q 1 rfl rfl rfl rfl rfl (by decide +kernel) (q_move rfl) ?_; refine a_q 2 rfl rfl rfl rfl rfl (by decide +kernel) (by ((apply iq_nck; (exact q_nilck rfl)))) ?_; refine a_q 3 rfl rfl rfl rfl rfl (by decide +kernel) (by ((apply iq_fld; (exact q_fieldAddr tab rfl rfl rfl rfl rfl rfl rfl)))) ?_; ((refine a_y 4 rfl rfl rfl rfl rfl (by decide +kernel) (by ((exact q_ld1 tab rfl rfl rfl (by first | ((repeat (first | exact List.Mem.head _ | apply List.Mem.tail)); done) | fail) (by (rfl))))) ?_)); refine a_q 5 rfl rfl rfl rfl rfl (by decide +kernel) (by ((apply iq_fld; (exact q_fieldAddr tab rfl rfl rfl rfl rfl rfl rfl)))) ?_; ((refine a_q 6 rfl rfl rfl rfl rfl (by decide +kernel) (by ((exact q_ld1 tab rfl rfl rfl (by first | ((repeat (first | exact List.Mem.head _ | apply List.Mem.tail)); done) | fail) (by (rfl))))) ?_)); refine a_q 7 rfl rfl rfl rfl rfl (by decide +kernel) (by (exact q_len tab rfl rfl)) ?_; refine a_q 8 rfl rfl rfl rfl rfl (by decide +kernel) (by ((apply iq_bld; ((exact q_bld tab rfl rfl rfl (by first | ((repeat (first | exact FillR.nil | exact LSets.nil | exact LSet.zero | exact CellsOf.agg | exact rfl | exact CellsOf.one rfl | apply FillR.cons | apply LSets.cons | apply LSet.succ)); done) | fail) (fun w => by kernel_rfl)))))) ?_))
      (refine a_e 9 rfl (by decide +kernel) rfl (fun K hK => e_bldS tab rfl rfl rfl rfl (by first | exact CellsOf.agg | exact CellsOf.one rfl) (by first | ((repeat (first | exact RepR.zero | exact AppR.nil | apply RepR.succ | apply AppR.cons)); done) | fail) (by first | ((repeat (first | exact FillR.nil | exact LSets.nil | exact LSet.zero | exact CellsOf.agg | exact rfl | exact CellsOf.one rfl | apply FillR.cons | apply LSets.cons | apply LSet.succ)); done) | fail) (fun w => by kernel_rfl) (fun g9 => hK _ _ (fun w h => h.subl (by first | ((repeat (first | exact SubL.nil | apply SubL.keep | apply SubL.skip)); done) | fail)) ?_)); clear hK)
      (skip)
      (refine a_e 10 rfl (by decide +kernel) rfl (fun K hK => e_app tab rfl rfl rfl rowOp (by first | ((repeat (first | exact Ext.head | apply Ext.tail)); done) | fail) (news := [.slice none 0 0, .bool false, .int .i64 k]) (fun w h => SrcAt.blk (h.mem (by first | ((repeat (first | exact List.Mem.head _ | apply List.Mem.tail)); done) | fail)) rfl) (by simp [Value.oneCell']) (by omega) (by omega) (fun A3 c3 hA1 hA2 => hK _ _ (fun w h => h.subl (by first | ((repeat (first | exact SubL.nil | apply SubL.keep | apply SubL.skip)); done) | fail)) ?_)); clear hK)
      ((refine a_q 11 rfl rfl rfl rfl rfl (by decide +kernel) (by ((apply iq_nck; (exact q_nilck rfl)))) ?_; refine a_q 12 rfl rfl rfl rfl rfl (by decide +kernel) (by ((apply iq_fld; (exact q_fieldAddr tab rfl rfl rfl rfl rfl rfl rfl)))) ?_))
      (refine a_e 13 rfl (by decide +kernel) rfl (fun K hK => e_set tab rfl rfl rfl rfl (by first | ((repeat (first | exact Upd.head | apply Upd.tail)); done) | fail) (by first | ((repeat (first | exact LSet.zero | apply LSet.succ)); done) | fail) (hK _ _ (fun w h => h.subl (by first | ((repeat (first | exact SubL.nil | apply SubL.keep | apply SubL.skip)); done) | fail)) ?_)); clear hK)
      refine a_done (by decide +kernel) ?_
      (repeat (first | (refine i_dst ?_; (first | (refine i_move ?_; refine l_q rfl rfl rfl (q_move rfl) ?_) | (refine i_bin ?_; refine l_q rfl rfl rfl (by (exact q_add rfl rfl (by (exact wr_i64 (by omega))))) ?_))) | refine c_region ?_ | refine l_nil ?_ | (refine i_q ?_; (first | refine d_then ?_ | refine t_then ?_ | refine t_block ?_))))
      refine k_again (i + 1, P1, .slice A3 (i + 1) c3) ⟨by dsimp only; omega, hPn.symm⟩ (by dsimp only; omega) (by first | ((repeat (first | exact trivial | exact rfl | apply Sub.cons | exact look_int rfl (by omega) | exact look_int rfl (by simp) | exact look_int rfl (by simp; omega))); done) | fail) (fun w h => ?_)
      dsimp only
      rw [htake, opF, List.flatMap_append]
      exact h.psub (by first | ((repeat (first | exact PSub.nil | exact Ext.head | apply Ext.tail | apply PSub.cons)); done) | fail)
  · have hin : i = n := by omega
    subst hin
    have htk : ls.take i = ls := List.take_of_length_le (by omega)
    rw [htk] at hP ⊢
    (repeat (first | (refine i_dst ?_; (first | (refine i_move ?_; refine l_q rfl rfl rfl (q_move rfl) ?_) | (refine i_assign ?_; refine l_q rfl rfl rfl (q_assign rfl) ?_) | (refine i_bin ?_; refine l_q rfl rfl rfl (by (exact q_lss rfl rfl)) ?_))) | refine d_seq ?_ | refine c_region ?_ | refine l_nil ?_ | (refine i_q ?_; (first | refine d_then ?_ | refine d_then_exit ?_ | refine t_then_exit ?_ | refine t_block_eq rfl ?_)) | refine c_exit ?_ | refine c_ret ?_ | (refine i_cond ?_; ((refine c_cf rfl (by (((first | (simp; done) | fail)))) ?_)))))
    refine t_hp (hp' := [gaA p ⟨mb, .slice Ao i co, P, ls.map opN⟩]) (fun w h => ?_) (t_ret1 Try.results13 rfl ⟨p, _, rfl, rfl, hP, ?_⟩)
    · unfold gaA gaL
      refine st_packs2 (Xs := [_, _, _, _]) ?_
      dsimp only
      rw [opF_eq, parts_eq, List.length_map, hlen]
      exact (st_parts h i).psub (by first | ((repeat (first | exact PSub.nil | exact Ext.head | apply Ext.tail | apply PSub.cons)); done) | fail)
    · rw [absG, newG, List.map_map]
      rfl
end Go.Proofs.Ytidekbijkknlmaa

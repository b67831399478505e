/-
  rep: Take, walked.
-/
import Derived.Test.YtidekbijkknlmaaD1
import Derived.Test.YtidekbijkknlmaaS5
set_option linter.unusedVariables false
set_option maxRecDepth 100000
namespace Go.Proofs.Ytidekbijkknlmaa
open Go.RowKit
attribute [local irreducible] TL TC TQ TK TO Qt TA
theorem roNil (S : Nat → Prop) (w : World) : Ro S w (roB none 0 []) := ⟨(roB_nil w).is, fun b hb => absurd (show 0 < 0 ∧ _ from hb).1 (by omega)⟩
attribute [local irreducible] blk row bytesA starL memA segA roB
set_option maxHeartbeats 16000000 in
theorem rptake_spec (kind code n : Nat) (hcd : code ≤ 255) (hd b : List Int) (hbn : b.length = n) (hh : RepHd kind code n hd) (A : Option Addr) (k c : Nat) (w : World) (hr : Ro (fps []) w (roB A k (hd ++ b))) (hc : k ≤ c ∧ c ≤ maxLen) : Calls Try.prog 26 #[.slice A k c] w (Ret w [] fun v B => ∃ A' c' u l', v = .tuple #[.agg #[.int .u8 kind, .int .u8 code, .slice A' b.length c'], .int .i64 0] ∧ B = [bytesA u l'] ∧ ∀ S w', Ro S w' (bytesA u l') → Ro S w' (roB A' b.length b)) := by
  have hkl := roB_len hr.is
  have hk8 : 1 ≤ k ∧ k ≤ 8 := by
    rw [← hkl, List.length_append]
    rcases hh with ⟨rfl, hcode, hn, rfl⟩ | ⟨rfl, hn, rfl⟩ | ⟨rfl, hn, rfl⟩ | ⟨rfl, hcode, hn, rfl⟩ <;> simp <;> omega
  have hmx : maxLen = 2 ^ 63 - 1 := rfl
  refine enter (vs := [.slice A k c]) Try.func26 rfl Try.ntmps26 rfl (Hold.nil w) ?_
  (repeat (first | (refine i_dst ?_; (first | (refine i_move ?_; refine l_q rfl rfl rfl (q_move rfl) ?_) | (refine i_assign ?_; refine l_q rfl rfl rfl (q_assign rfl) ?_) | (refine i_bin ?_; refine l_q rfl rfl rfl (by (exact q_eql rfl rfl)) ?_) | (refine i_blt ?_; refine l_q rfl rfl rfl (by (first | exact q_len tab rfl rfl | exact q_minN rfl rfl)) ?_) | (refine i_sl ?_; refine l_q rfl rfl rfl (by (exact q_slHi tab rfl rfl rfl rfl (by first | (with_reducible exact Int.toNat_natCast _) | (with_reducible exact Int.toNat_zero) | (with_reducible exact Int.toNat_one) | rfl) (by (omega)))) ?_) | (refine i_alloc ?_; (refine l_allocA tab rfl rfl (fun _ => ?_))))) | refine d_seq ?_ | refine c_region ?_ | refine l_nil ?_ | (refine i_q ?_; (refine d_then ?_)) | refine c_skip ?_ | (refine i_cond ?_; (refine c_cf rfl (by (exact decide_eq_false (by omega))) ?_))))
  rw [show min k 8 = k by omega]
  rename_i b2
  rcases hh with ⟨rfl, hcode, hn, rfl⟩ | ⟨rfl, hn, rfl⟩ | ⟨rfl, hn, rfl⟩ | ⟨rfl, hcode, hn, rfl⟩
  · rw [List.singleton_append] at hr hkl
    have hb0 : (bv ((255 : Int) :: b))[0]? = some (.int .u8 (255)) := rfl
    have hk1 : k = 1 + b.length := by rw [← hkl]; simp; omega
    clear hkl
    have hrest := Ro.cut (a := 1) (k := k - 1) hr hc.1 (by omega)
    rw [List.drop_succ_cons, List.drop_zero, List.take_of_length_le (by omega)] at hrest
    (refine a_begin mixed [] 8 rfl (fun w h => h.subl (by first | ((repeat (first | exact SubL.nil | apply SubL.keep | apply SubL.skip)); done) | fail)) ?_)
    ((refine a_q 0 rfl rfl rfl rfl rfl (by decide +kernel) (q_move rfl) ?_; refine a_q 1 rfl rfl rfl rfl rfl (by decide +kernel) (by (exact q_ixS1 tab rfl rfl rfl rfl (by (exact fun w h => roB_src (h.ro (by assumption)))) (by first | (with_reducible exact Int.toNat_natCast _) | (with_reducible exact Int.toNat_zero) | (with_reducible exact Int.toNat_one) | rfl) (by (omega)) (by (omega)))) ?_; (refine a_q 2 rfl rfl rfl rfl rfl (by decide +kernel) (by (exact q_ldS tab rfl rfl rfl (by (exact fun w h => roB_src (h.ro (by assumption)))) (by (assumption)))) ?_); refine a_q 3 rfl rfl rfl rfl rfl (by decide +kernel) (q_move rfl) ?_; refine a_q 4 rfl rfl rfl rfl rfl (by decide +kernel) (by (exact q_slLo tab rfl rfl rfl rfl (by first | (with_reducible exact Int.toNat_natCast _) | (with_reducible exact Int.toNat_zero) | (with_reducible exact Int.toNat_one) | rfl) (by (omega)))) ?_))
    (refine a_e 5 rfl (by decide +kernel) rfl (fun K hK => e_call0 rfl rfl Try.func36 rfl (by decide) (fun w' h => clone_spec _ (k - 1) _ b w' (roOf0 h hrest) (by omega)) (fun v B hv => ?_)); obtain ⟨Ab, cb, rfl, rfl⟩ := hv; refine hK _ _ (fun w h => h.subl (by first | ((repeat (first | exact SubL.nil | apply SubL.keep | apply SubL.skip)); done) | fail)) ?_; clear hK)
    ((refine a_q 6 rfl rfl rfl rfl rfl (by decide +kernel) (q_assign rfl) ?_; refine a_q 7 rfl rfl rfl rfl rfl (by decide +kernel) (q_assign rfl) ?_))
    refine a_done (by decide +kernel) ?_
    have hr0 : (bv b)[0]? = (bv b)[0]? := rfl
    (repeat (first | (refine i_dst ?_; (first | (refine i_move ?_; refine l_q rfl rfl rfl (q_move rfl) ?_) | (refine i_assign ?_; refine l_q rfl rfl rfl (q_assign rfl) ?_) | (refine i_bin ?_; refine l_q rfl rfl rfl (by (exact q_eql rfl rfl)) ?_) | (refine l_q rfl rfl rfl (by ((apply iq_bld; ((exact q_bld tab rfl rfl rfl (by first | ((repeat (first | exact FillR.nil | exact LSets.nil | exact LSet.zero | exact CellsOf.agg | exact rfl | exact CellsOf.one rfl | apply FillR.cons | apply LSets.cons | apply LSet.succ)); done) | fail) (fun w => by kernel_rfl)))))) ?_))) | refine d_seq ?_ | refine c_region ?_ | refine l_nil ?_ | refine c_block ?_ | (refine i_q ?_; (first | refine d_then ?_ | refine d_then_ret ?_ | refine t_block_ret ?_)) | refine c_ret ?_ | (refine i_store ?_; ((refine l_setN tab rfl rfl rfl rfl (List.cons_ne_nil _ _) rfl (by first | ((repeat (first | exact Upd.head | apply Upd.tail)); done) | fail) (by first | ((repeat (first | exact LSets.nil | exact LSet.zero | apply LSets.cons | apply LSet.succ)); done) | fail) ?_))) | (refine i_cond ?_; (refine c_ct rfl (by (rfl)) ?_))))
    refine t_ret2h (hp' := [bytesA (.slice Ab b.length cb) b]) Try.results26 (res_cellM (l := [.int .u8 1, .int .u8 0, .slice Ab b.length cb]) tab rfl rfl rfl rfl (by first | ((repeat (first | exact List.Mem.head _ | apply List.Mem.tail)); done) | fail) rfl) rfl (fun w h => h.psub (by first | ((repeat (first | exact PSub.nil | exact Ext.head | apply Ext.tail | apply PSub.cons)); done) | fail)) ⟨Ab, cb, _, b, by rw [hcode]; rfl, rfl, fun S w' h => h.bytes⟩
  · have hb : b = [] := List.eq_nil_of_length_eq_zero (hbn.trans hn)
    subst hb
    rw [List.append_nil] at hr hkl
    have hb0 : (bv [(254 : Int), (code : Int)])[0]? = some (.int .u8 (254)) := rfl
    have hk1 : k = 2 := by rw [← hkl]; rfl
    clear hkl
    have hrest := Ro.cut (a := 1) (k := k - 1) hr hc.1 (by omega)
    rw [List.drop_succ_cons, List.drop_zero, List.take_of_length_le (by simp; omega)] at hrest
    (refine a_begin mixed [] 8 rfl (fun w h => h.subl (by first | ((repeat (first | exact SubL.nil | apply SubL.keep | apply SubL.skip)); done) | fail)) ?_)
    ((refine a_q 0 rfl rfl rfl rfl rfl (by decide +kernel) (q_move rfl) ?_; refine a_q 1 rfl rfl rfl rfl rfl (by decide +kernel) (by (exact q_ixS1 tab rfl rfl rfl rfl (by (exact fun w h => roB_src (h.ro (by assumption)))) (by first | (with_reducible exact Int.toNat_natCast _) | (with_reducible exact Int.toNat_zero) | (with_reducible exact Int.toNat_one) | rfl) (by (omega)) (by (omega)))) ?_; (refine a_q 2 rfl rfl rfl rfl rfl (by decide +kernel) (by (exact q_ldS tab rfl rfl rfl (by (exact fun w h => roB_src (h.ro (by assumption)))) (by (assumption)))) ?_); refine a_q 3 rfl rfl rfl rfl rfl (by decide +kernel) (q_move rfl) ?_; refine a_q 4 rfl rfl rfl rfl rfl (by decide +kernel) (by (exact q_slLo tab rfl rfl rfl rfl (by first | (with_reducible exact Int.toNat_natCast _) | (with_reducible exact Int.toNat_zero) | (with_reducible exact Int.toNat_one) | rfl) (by (omega)))) ?_))
    (refine a_e 5 rfl (by decide +kernel) rfl (fun K hK => e_call0 rfl rfl Try.func36 rfl (by decide) (fun w' h => clone_spec _ (k - 1) _ [(code : Int)] w' (roOf0 h hrest) (by omega)) (fun v B hv => ?_)); obtain ⟨Ab, cb, rfl, rfl⟩ := hv; refine hK _ _ (fun w h => h.subl (by first | ((repeat (first | exact SubL.nil | apply SubL.keep | apply SubL.skip)); done) | fail)) ?_; clear hK)
    ((refine a_q 6 rfl rfl rfl rfl rfl (by decide +kernel) (q_assign rfl) ?_; refine a_q 7 rfl rfl rfl rfl rfl (by decide +kernel) (q_assign rfl) ?_))
    refine a_done (by decide +kernel) ?_
    have hr0 : (bv [(code : Int)])[0]? = (bv [(code : Int)])[0]? := rfl
    have hr1 : (bv [(code : Int)])[0]? = some (.int .u8 (code : Int)) := rfl
    rw [List.length_singleton]
    (repeat (first | (refine i_dst ?_; (first | (refine i_move ?_; refine l_q rfl rfl rfl (q_move rfl) ?_) | (refine i_assign ?_; refine l_q rfl rfl rfl (q_assign rfl) ?_) | (refine i_load ?_; refine l_q rfl rfl rfl (by ((exact q_ldS tab rfl rfl rfl (by ((exact fun w h => bytesA_src (h.mem (by first | ((repeat (first | exact List.Mem.head _ | apply List.Mem.tail)); done) | fail))))) (by (assumption))))) ?_) | (refine i_bin ?_; refine l_q rfl rfl rfl (by (first | exact q_lss rfl rfl | exact q_eql rfl rfl | exact q_leq rfl rfl)) ?_) | (refine i_blt ?_; refine l_q rfl rfl rfl (by (exact q_len tab rfl rfl)) ?_) | (refine i_ix ?_; refine l_q rfl rfl rfl (by ((exact q_ixS1 tab rfl rfl rfl rfl (by ((exact fun w h => bytesA_src (h.mem (by first | ((repeat (first | exact List.Mem.head _ | apply List.Mem.tail)); done) | fail))))) (by first | (with_reducible exact Int.toNat_natCast _) | (with_reducible exact Int.toNat_zero) | (with_reducible exact Int.toNat_one) | rfl) (by (omega)) (by (omega))))) ?_) | (refine l_q rfl rfl rfl (by ((apply iq_bld; ((exact q_bld tab rfl rfl rfl (by first | ((repeat (first | exact FillR.nil | exact LSets.nil | exact LSet.zero | exact CellsOf.agg | exact rfl | exact CellsOf.one rfl | apply FillR.cons | apply LSets.cons | apply LSet.succ)); done) | fail) (fun w => by kernel_rfl)))))) ?_))) | refine d_seq ?_ | refine c_region ?_ | refine l_nil ?_ | refine c_block ?_ | (refine i_q ?_; (first | refine d_then ?_ | refine d_then_ret ?_ | refine t_block_ret ?_)) | refine c_ret ?_ | (refine i_store ?_; ((refine l_setN tab rfl rfl rfl rfl (List.cons_ne_nil _ _) rfl (by first | ((repeat (first | exact Upd.head | apply Upd.tail)); done) | fail) (by first | ((repeat (first | exact LSets.nil | exact LSet.zero | apply LSets.cons | apply LSet.succ)); done) | fail) ?_))) | (refine i_cond ?_; (first | refine c_ct rfl (by (rfl)) ?_ | refine c_cf rfl (by (rfl)) ?_))))
    exact t_ret2h (hp' := [bytesA (.slice Ab 1 cb) [(code : Int)]]) Try.results26 (res_cellM (l := [.int .u8 2, .int .u8 code, .slice none 0 0]) tab rfl rfl rfl rfl (by first | ((repeat (first | exact List.Mem.head _ | apply List.Mem.tail)); done) | fail) rfl) rfl (fun w h => h.psub (by first | ((repeat (first | exact PSub.nil | exact Ext.head | apply Ext.tail | apply PSub.cons)); done) | fail)) ⟨none, 0, _, _, rfl, rfl, fun S w' h => roNil S w'⟩
  · rw [List.cons_append, List.singleton_append] at hr hkl
    have hb0 : (bv ((253 : Int) :: (code : Int) :: b))[0]? = some (.int .u8 (253)) := rfl
    have hk1 : k = 2 + b.length := by rw [← hkl]; simp; omega
    clear hkl
    have hrest := Ro.cut (a := 1) (k := k - 1) hr hc.1 (by omega)
    rw [List.drop_succ_cons, List.drop_zero, List.take_of_length_le (by simp; omega)] at hrest
    (refine a_begin mixed [] 8 rfl (fun w h => h.subl (by first | ((repeat (first | exact SubL.nil | apply SubL.keep | apply SubL.skip)); done) | fail)) ?_)
    ((refine a_q 0 rfl rfl rfl rfl rfl (by decide +kernel) (q_move rfl) ?_; refine a_q 1 rfl rfl rfl rfl rfl (by decide +kernel) (by (exact q_ixS1 tab rfl rfl rfl rfl (by (exact fun w h => roB_src (h.ro (by assumption)))) (by first | (with_reducible exact Int.toNat_natCast _) | (with_reducible exact Int.toNat_zero) | (with_reducible exact Int.toNat_one) | rfl) (by (omega)) (by (omega)))) ?_; (refine a_q 2 rfl rfl rfl rfl rfl (by decide +kernel) (by (exact q_ldS tab rfl rfl rfl (by (exact fun w h => roB_src (h.ro (by assumption)))) (by (assumption)))) ?_); refine a_q 3 rfl rfl rfl rfl rfl (by decide +kernel) (q_move rfl) ?_; refine a_q 4 rfl rfl rfl rfl rfl (by decide +kernel) (by (exact q_slLo tab rfl rfl rfl rfl (by first | (with_reducible exact Int.toNat_natCast _) | (with_reducible exact Int.toNat_zero) | (with_reducible exact Int.toNat_one) | rfl) (by (omega)))) ?_))
    (refine a_e 5 rfl (by decide +kernel) rfl (fun K hK => e_call0 rfl rfl Try.func36 rfl (by decide) (fun w' h => clone_spec _ (k - 1) _ ((code : Int) :: b) w' (roOf0 h hrest) (by omega)) (fun v B hv => ?_)); obtain ⟨Ab, cb, rfl, rfl⟩ := hv; refine hK _ _ (fun w h => h.subl (by first | ((repeat (first | exact SubL.nil | apply SubL.keep | apply SubL.skip)); done) | fail)) ?_; clear hK)
    ((refine a_q 6 rfl rfl rfl rfl rfl (by decide +kernel) (q_assign rfl) ?_; refine a_q 7 rfl rfl rfl rfl rfl (by decide +kernel) (q_assign rfl) ?_))
    refine a_done (by decide +kernel) ?_
    have hr0 : (bv ((code : Int) :: b))[0]? = (bv ((code : Int) :: b))[0]? := rfl
    have hr1 : (bv ((code : Int) :: b))[0]? = some (.int .u8 (code : Int)) := rfl
    rw [List.length_cons]
    refine t_fact (p := b.length + 1 ≤ cb ∧ cb ≤ maxLen) (fun w h => ?_) ?_
    · obtain ⟨A', c', e1, e2, e3, -⟩ := bytesA_ro (h.mem (X := bytesA (.slice Ab (b.length + 1) cb) ((code : Int) :: b)) (by first | ((repeat (first | exact List.Mem.head _ | apply List.Mem.tail)); done) | fail))
      injection e1 with _ e4 e5
      rw [List.length_cons] at e4 e2
      omega
    rintro ⟨hcb1, hcb2⟩
    (repeat (first | (refine i_dst ?_; (first | (refine i_move ?_; refine l_q rfl rfl rfl (q_move rfl) ?_) | (refine i_assign ?_; refine l_q rfl rfl rfl (q_assign rfl) ?_) | (refine i_bin ?_; refine l_q rfl rfl rfl (by (first | exact q_lss rfl rfl | exact q_eql rfl rfl | exact q_leq rfl rfl)) ?_) | (refine i_blt ?_; refine l_q rfl rfl rfl (by (exact q_len tab rfl rfl)) ?_))) | refine d_seq ?_ | refine c_region ?_ | refine l_nil ?_ | refine c_block ?_ | (refine i_q ?_; (first | refine d_then ?_ | refine t_block ?_)) | refine c_skip ?_ | (refine i_cond ?_; (refine c_cf rfl (by (rfl)) ?_))))
    (refine a_begin mixed [bytesA (.slice Ab (b.length + 1) cb) ((code : Int) :: b)] 8 rfl (fun w h => h.subl (by first | ((repeat (first | exact SubL.nil | apply SubL.keep | apply SubL.skip)); done) | fail)) ?_)
    ((refine a_q 0 rfl rfl rfl rfl rfl (by decide +kernel) (q_move rfl) ?_; refine a_q 1 rfl rfl rfl rfl rfl (by decide +kernel) (by ((exact q_ixS1 tab rfl rfl rfl rfl (by ((exact fun w h => bytesA_src (h.mem (by first | ((repeat (first | exact List.Mem.head _ | apply List.Mem.tail)); done) | fail))))) (by first | (with_reducible exact Int.toNat_natCast _) | (with_reducible exact Int.toNat_zero) | (with_reducible exact Int.toNat_one) | rfl) (by (omega)) (by (omega))))) ?_; ((refine a_q 2 rfl rfl rfl rfl rfl (by decide +kernel) (by ((exact q_ldS tab rfl rfl rfl (by ((exact fun w h => bytesA_src (h.mem (by first | ((repeat (first | exact List.Mem.head _ | apply List.Mem.tail)); done) | fail))))) (by (assumption))))) ?_)); refine a_q 3 rfl rfl rfl rfl rfl (by decide +kernel) (q_move rfl) ?_; refine a_q 4 rfl rfl rfl rfl rfl (by decide +kernel) (by (exact q_slLo tab rfl rfl rfl rfl (by first | (with_reducible exact Int.toNat_natCast _) | (with_reducible exact Int.toNat_zero) | (with_reducible exact Int.toNat_one) | rfl) (by (omega)))) ?_; refine a_q 5 rfl rfl rfl rfl rfl (by decide +kernel) (by ((apply iq_bld; ((exact q_bld tab rfl rfl rfl (by first | ((repeat (first | exact FillR.nil | exact LSets.nil | exact LSet.zero | exact CellsOf.agg | exact rfl | exact CellsOf.one rfl | apply FillR.cons | apply LSets.cons | apply LSet.succ)); done) | fail) (fun w => by kernel_rfl)))))) ?_))
    refine a_e 6 rfl (by decide +kernel) rfl (fun K hK => e_setN tab rfl rfl rfl rfl (List.cons_ne_nil _ _) rfl (by first | ((repeat (first | exact Upd.head | apply Upd.tail)); done) | fail) (by first | ((repeat (first | exact LSets.nil | exact LSet.zero | apply LSets.cons | apply LSet.succ)); done) | fail) (hK _ _ (fun w h => h.subl (by first | ((repeat (first | exact SubL.nil | apply SubL.keep | apply SubL.skip)); done) | fail)) ?_))
    clear hK
    ((refine a_q 7 rfl rfl rfl rfl rfl (by decide +kernel) (q_assign rfl) ?_))
    refine a_done (by decide +kernel) ?_
    (repeat (first | (refine i_q ?_; (refine d_then ?_)) | refine c_ret ?_))
    exact t_ret2h (hp' := [bytesA (.slice Ab (b.length + 1) cb) ((code : Int) :: b)]) Try.results26 (res_cellM (l := [.int .u8 3, .int .u8 code, .slice (cutA Ab cb 1 1) b.length (cb - 1)]) tab rfl rfl rfl rfl (by first | ((repeat (first | exact List.Mem.head _ | apply List.Mem.tail)); done) | fail) rfl) rfl (fun w h => h.psub (by first | ((repeat (first | exact PSub.nil | exact Ext.head | apply Ext.tail | apply PSub.cons)); done) | fail)) ⟨cutA Ab cb 1 1, cb - 1, _, _, rfl, rfl, fun S w' h => by
      have h1 := Ro.cut (a := 1) (k := b.length) h.bytes hcb1 (by omega)
      rw [List.drop_succ_cons, List.drop_zero, List.take_of_length_le (Nat.le_refl _)] at h1
      exact h1⟩
  · rw [List.singleton_append] at hr hkl
    have hb0 : (bv ((code : Int) :: b))[0]? = some (.int .u8 ((code : Int))) := rfl
    have hk1 : k = 1 + b.length := by rw [← hkl]; simp; omega
    clear hkl
    have hrest := Ro.cut (a := 1) (k := k - 1) hr hc.1 (by omega)
    rw [List.drop_succ_cons, List.drop_zero, List.take_of_length_le (by omega)] at hrest
    (refine a_begin mixed [] 8 rfl (fun w h => h.subl (by first | ((repeat (first | exact SubL.nil | apply SubL.keep | apply SubL.skip)); done) | fail)) ?_)
    ((refine a_q 0 rfl rfl rfl rfl rfl (by decide +kernel) (q_move rfl) ?_; refine a_q 1 rfl rfl rfl rfl rfl (by decide +kernel) (by (exact q_ixS1 tab rfl rfl rfl rfl (by (exact fun w h => roB_src (h.ro (by assumption)))) (by first | (with_reducible exact Int.toNat_natCast _) | (with_reducible exact Int.toNat_zero) | (with_reducible exact Int.toNat_one) | rfl) (by (omega)) (by (omega)))) ?_; (refine a_q 2 rfl rfl rfl rfl rfl (by decide +kernel) (by (exact q_ldS tab rfl rfl rfl (by (exact fun w h => roB_src (h.ro (by assumption)))) (by (assumption)))) ?_); refine a_q 3 rfl rfl rfl rfl rfl (by decide +kernel) (q_move rfl) ?_; refine a_q 4 rfl rfl rfl rfl rfl (by decide +kernel) (by (exact q_slLo tab rfl rfl rfl rfl (by first | (with_reducible exact Int.toNat_natCast _) | (with_reducible exact Int.toNat_zero) | (with_reducible exact Int.toNat_one) | rfl) (by (omega)))) ?_))
    (refine a_e 5 rfl (by decide +kernel) rfl (fun K hK => e_call0 rfl rfl Try.func36 rfl (by decide) (fun w' h => clone_spec _ (k - 1) _ b w' (roOf0 h hrest) (by omega)) (fun v B hv => ?_)); obtain ⟨Ab, cb, rfl, rfl⟩ := hv; refine hK _ _ (fun w h => h.subl (by first | ((repeat (first | exact SubL.nil | apply SubL.keep | apply SubL.skip)); done) | fail)) ?_; clear hK)
    ((refine a_q 6 rfl rfl rfl rfl rfl (by decide +kernel) (q_assign rfl) ?_; refine a_q 7 rfl rfl rfl rfl rfl (by decide +kernel) (q_assign rfl) ?_))
    refine a_done (by decide +kernel) ?_
    have hr0 : (bv b)[0]? = (bv b)[0]? := rfl
    (repeat (first | (refine i_dst ?_; (first | (refine i_move ?_; refine l_q rfl rfl rfl (q_move rfl) ?_) | (refine i_assign ?_; refine l_q rfl rfl rfl (q_assign rfl) ?_) | (refine i_bin ?_; refine l_q rfl rfl rfl (by (first | exact q_eql rfl rfl | exact q_leq rfl rfl)) ?_) | (refine l_q rfl rfl rfl (by ((apply iq_bld; ((exact q_bld tab rfl rfl rfl (by first | ((repeat (first | exact FillR.nil | exact LSets.nil | exact LSet.zero | exact CellsOf.agg | exact rfl | exact CellsOf.one rfl | apply FillR.cons | apply LSets.cons | apply LSet.succ)); done) | fail) (fun w => by kernel_rfl)))))) ?_))) | refine d_seq ?_ | refine c_region ?_ | refine l_nil ?_ | refine c_block ?_ | (refine i_q ?_; (first | refine d_then ?_ | refine d_then_ret ?_ | refine t_block_ret ?_)) | refine c_ret ?_ | (refine i_store ?_; ((refine l_setN tab rfl rfl rfl rfl (List.cons_ne_nil _ _) rfl (by first | ((repeat (first | exact Upd.head | apply Upd.tail)); done) | fail) (by first | ((repeat (first | exact LSets.nil | exact LSet.zero | apply LSets.cons | apply LSet.succ)); done) | fail) ?_))) | (refine i_cond ?_; (first | refine c_ct rfl (by (exact decide_eq_true (by omega))) ?_ | refine c_cf rfl (by (exact decide_eq_false (by omega))) ?_))))
    refine t_ret2h (hp' := [bytesA (.slice Ab b.length cb) b]) Try.results26 (res_cellM (l := [.int .u8 4, .int .u8 code, .slice Ab b.length cb]) tab rfl rfl rfl rfl (by first | ((repeat (first | exact List.Mem.head _ | apply List.Mem.tail)); done) | fail) rfl) rfl (fun w h => h.psub (by first | ((repeat (first | exact PSub.nil | exact Ext.head | apply Ext.tail | apply PSub.cons)); done) | fail)) ⟨Ab, cb, _, b, rfl, rfl, fun S w' h => h.bytes⟩
end Go.Proofs.Ytidekbijkknlmaa

/-
  cmd.Take, walked.
-/
import Derived.Test.YtidekbijkknlmaaC3
import Derived.Test.YtidekbijkknlmaaY3
set_option linter.unusedVariables false
set_option maxRecDepth 100000
namespace Go.Proofs.Ytidekbijkknlmaa
open Go.RowKit
attribute [local irreducible] TL TC TQ TK TO Qt TA
theorem set_as {code a0 a1 a2 a3 a4 s : Nat} {l : List Int} (hs : s ≤ 5) (hz : [a0, a1, a2, a3, a4] = zb s [a0, a1, a2, a3, a4]) : setAt [.int .u8 code, .int .u8 0, .int .u8 0, .int .u8 0, .int .u8 0, .int .u8 0, .int .u32 0, .slice none 0 0] 1 ((bv ((asI a0 a1 a2 a3 a4).take s ++ l)).take s) = [.int .u8 code, .int .u8 a0, .int .u8 a1, .int .u8 a2, .int .u8 a3, .int .u8 a4, .int .u32 0, .slice none 0 0] := by
  rcases (by omega : s = 0 ∨ s = 1 ∨ s = 2 ∨ s = 3 ∨ s = 4 ∨ s = 5) with rfl | rfl | rfl | rfl | rfl | rfl <;> simp [zb] at hz <;> simp [asI, bv, setAt, hz]
attribute [local irreducible] blk row bytesA starL memA segA roB
set_option maxHeartbeats 16000000 in
theorem ctake_spec (code a0 a1 a2 a3 a4 w32 : Nat) (ha : a0 ≤ 255) (hcd : code ≤ 255) (hw32 : w32 < 4294967296) (b z : List Int) (s m : Nat) (g : Bool) (hfit : FitsOk code a0 a1 a2 a3 a4 w32 b.length s g m) (A : Option Addr) (n c : Nat) (w : World) (hr : Ro (fps []) w (roB A n (encC code a0 a1 a2 a3 a4 w32 b s g ++ z))) (hn : n ≤ 50) (hc : n ≤ c ∧ c ≤ maxLen) : Calls Try.prog 24 #[.slice A n c] w (Ret w [] fun v B => ∃ A' c', v = .tuple #[.agg #[.int .u8 code, .int .u8 a0, .int .u8 a1, .int .u8 a2, .int .u8 a3, .int .u8 a4, .int .u32 w32, .slice A' b.length c'], .int .i64 0] ∧ B = [bytesA (.slice A' b.length c') b]) := by
  have hnl := roB_len hr.is
  have hmx : maxLen = 2 ^ 63 - 1 := rfl
  obtain ⟨⟨hs5, -⟩, hg2, -⟩ := shape_some hfit.sh
  obtain ⟨r1, hr1⟩ : ∃ r1, r1 = (if g = true then be4 w32 else []) ++ b ++ z := ⟨_, rfl⟩
  have hl : encC code a0 a1 a2 a3 a4 w32 b s g ++ z = (code : Int) :: ((asI a0 a1 a2 a3 a4).take s ++ r1) := by
    rw [encC, hr1]
    simp
  rw [hl] at hr hnl
  have hal : ((asI a0 a1 a2 a3 a4).take s).length = s := by rw [List.length_take]; show min s 5 = s; omega
  have hn1 : n = 1 + s + r1.length := by rw [← hnl, List.length_cons, List.length_append, hal]; omega
  have hrest := Ro.cut (a := 1) (k := n - 1) hr hc.1 (by omega)
  rw [List.drop_succ_cons, List.drop_zero, List.take_of_length_le (by rw [List.length_append, hal]; omega)] at hrest
  have hrest2 := Ro.cut (a := s) (k := n - 1 - s) hrest (c := c - 1) (by omega) (by omega)
  rw [List.drop_left' hal, List.take_of_length_le (by omega)] at hrest2
  have hset := set_as (code := code) (l := r1) hs5 hfit.z
  refine enter (vs := [.slice A n c]) Try.func24 rfl Try.ntmps24 rfl (Hold.nil w) ?_
  have hb0 : (bv ((code : Int) :: ((asI a0 a1 a2 a3 a4).take s ++ r1)))[0]? = some (.int .u8 (code : Int)) := rfl
  (repeat (first | (refine i_dst ?_; (first | (refine i_move ?_; refine l_q rfl rfl rfl (q_move rfl) ?_) | (refine i_assign ?_; refine l_q rfl rfl rfl (q_assign rfl) ?_) | (refine i_load ?_; refine l_q rfl rfl rfl (by (exact q_ldS tab rfl rfl rfl (by (exact fun w h => roB_src (h.ro (by assumption)))) (by (assumption)))) ?_) | (refine i_bin ?_; refine l_q rfl rfl rfl (by (exact q_eql rfl rfl)) ?_) | (refine i_blt ?_; refine l_q rfl rfl rfl (by (exact q_len tab rfl rfl)) ?_) | (refine i_ix ?_; refine l_q rfl rfl rfl (by (exact q_ixS1 tab rfl rfl rfl rfl (by (exact fun w h => roB_src (h.ro (by assumption)))) (by first | (with_reducible exact Int.toNat_natCast _) | (with_reducible exact Int.toNat_zero) | (with_reducible exact Int.toNat_one) | rfl) (by (omega)) (by (omega)))) ?_) | (refine i_alloc ?_; (refine l_allocA tab rfl rfl (fun _ => ?_))))) | refine d_seq ?_ | refine c_region ?_ | refine l_nil ?_ | (refine i_q ?_; (refine d_then ?_)) | refine c_skip ?_ | (refine i_cond ?_; (refine c_cf rfl (by (exact decide_eq_false (by omega))) ?_))))
  (refine l_call0 rfl rfl Try.func39 rfl (by decide) (fun w' h => shape_spec code hcd w') (fun v B hv => ?_); obtain ⟨rfl, rfl⟩ := hv)
  rw [hfit.sh, shV]
  (repeat (first | (refine i_dst ?_; (first | (refine i_move ?_; refine l_q rfl rfl rfl (q_move rfl) ?_) | (refine i_assign ?_; refine l_q rfl rfl rfl (q_assign rfl) ?_) | refine l_q rfl rfl rfl (by (first | exact q_extract rfl rfl | exact q_not rfl)) ?_)) | refine d_seq ?_ | refine c_region ?_ | refine l_nil ?_ | (refine i_q ?_; (refine d_then ?_)) | refine c_skip ?_ | (refine i_cond ?_; (refine c_cf rfl (by (rfl)) ?_))))
  rename_i b2
  (refine a_begin mixed [] 9 rfl (fun w h => h.subl (by first | ((repeat (first | exact SubL.nil | apply SubL.keep | apply SubL.skip)); done) | fail)) ?_)
  ((refine a_q 0 rfl rfl rfl rfl rfl (by decide +kernel) (q_move rfl) ?_; refine a_q 1 rfl rfl rfl rfl rfl (by decide +kernel) (by (exact q_ixS1 tab rfl rfl rfl rfl (by (exact fun w h => roB_src (h.ro (by assumption)))) (by first | (with_reducible exact Int.toNat_natCast _) | (with_reducible exact Int.toNat_zero) | (with_reducible exact Int.toNat_one) | rfl) (by (omega)) (by (omega)))) ?_; (refine a_q 2 rfl rfl rfl rfl rfl (by decide +kernel) (by (exact q_ldS tab rfl rfl rfl (by (exact fun w h => roB_src (h.ro (by assumption)))) (by (assumption)))) ?_); refine a_q 3 rfl rfl rfl rfl rfl (by decide +kernel) (by ((apply iq_bld; ((exact q_bld tab rfl rfl rfl (by first | ((repeat (first | exact FillR.nil | exact LSets.nil | exact LSet.zero | exact CellsOf.agg | exact rfl | exact CellsOf.one rfl | apply FillR.cons | apply LSets.cons | apply LSet.succ)); done) | fail) (fun w => by kernel_rfl)))))) ?_; refine a_q 4 rfl rfl rfl rfl rfl (by decide +kernel) (q_move rfl) ?_; refine a_q 5 rfl rfl rfl rfl rfl (by decide +kernel) (by (exact q_slLo tab rfl rfl rfl rfl (by first | (with_reducible exact Int.toNat_natCast _) | (with_reducible exact Int.toNat_zero) | (with_reducible exact Int.toNat_one) | rfl) (by (omega)))) ?_))
  refine a_e 6 rfl (by decide +kernel) rfl (fun K hK => e_alloc tab rfl rfl rfl (fun b8 => hK _ _ (fun w h => h.subl (by first | ((repeat (first | exact SubL.nil | apply SubL.keep | apply SubL.skip)); done) | fail)) ?_))
  clear hK
  (skip)
  refine a_e 7 rfl (by decide +kernel) rfl (fun K hK => e_setN tab rfl rfl rfl rfl (List.cons_ne_nil _ _) rfl (by first | ((repeat (first | exact Upd.head | apply Upd.tail)); done) | fail) (by first | ((repeat (first | exact LSets.nil | exact LSet.zero | apply LSets.cons | apply LSet.succ)); done) | fail) (hK _ _ (fun w h => h.subl (by first | ((repeat (first | exact SubL.nil | apply SubL.keep | apply SubL.skip)); done) | fail)) ?_))
  clear hK
  ((refine a_q 8 rfl rfl rfl rfl rfl (by decide +kernel) (q_assign rfl) ?_))
  refine a_done (by decide +kernel) ?_
  (repeat (first | (refine i_dst ?_; (first | (refine i_move ?_; refine l_q rfl rfl rfl (q_move rfl) ?_) | (refine i_bin ?_; refine l_q rfl rfl rfl (by (exact q_lss rfl rfl)) ?_) | (refine i_blt ?_; refine l_q rfl rfl rfl (by (exact q_len tab rfl rfl)) ?_) | (refine l_q rfl rfl rfl (by ((apply iq_fld; (exact q_fieldAddr tab rfl rfl rfl rfl rfl rfl rfl)))) ?_))) | refine d_seq ?_ | refine c_region ?_ | refine l_nil ?_ | (refine i_q ?_; (refine d_then ?_)) | refine c_skip ?_ | (refine i_cond ?_; (refine c_cf rfl (by (exact decide_eq_false (by omega))) ?_))))
  refine i_dst (l_q rfl rfl rfl (q_arHi (h := s) tab rfl rfl rfl rfl (by omega) (by omega)) ?_)
  (repeat ((refine i_dst ?_; ((refine i_move ?_; refine l_q rfl rfl rfl (q_move rfl) ?_)))))
  refine l_hp (hp' := [blk b8 [.int .u8 code, .int .u8 0, .int .u8 0, .int .u8 0, .int .u8 0, .int .u8 0, .int .u32 0, .slice none 0 0] 63, blk b2 [.int .u8 0, .int .u8 0, .int .u8 0, .int .u8 0, .int .u8 0, .int .u8 0, .int .u32 0, .slice none 0 0] 63]) (fun w h => h.psub (by first | ((repeat (first | exact PSub.nil | exact Ext.head | apply Ext.tail | apply PSub.cons)); done) | fail)) ?_
  refine l_op rfl (fun K hK => e_copy tab (i := 0) (news := bv ((asI a0 a1 a2 a3 a4).take s ++ r1)) rfl rfl rfl rfl rfl rfl (by simp; omega) (fun w h => roB_src (h.ro hrest)) (bv_one _) (hK _ _ ?_))
  clear hK
  refine l_hp (hp' := [blk b8 [.int .u8 code, .int .u8 a0, .int .u8 a1, .int .u8 a2, .int .u8 a3, .int .u8 a4, .int .u32 0, .slice none 0 0] 63, blk b2 [.int .u8 0, .int .u8 0, .int .u8 0, .int .u8 0, .int .u8 0, .int .u8 0, .int .u32 0, .slice none 0 0] 63]) (fun w h => by
    rw [← hset]
    rw [show min (n - 1) s = s by omega] at h
    exact h.psub (by first | ((repeat (first | exact PSub.nil | exact Ext.head | apply Ext.tail | apply PSub.cons)); done) | fail)) ?_
  rw [show min (n - 1) s = s by omega]
  cases g with
  | true =>
    have hb : b = [] := by
      have h1 := hfit.n
      rw [(hg2 rfl).2] at h1
      exact List.eq_nil_of_length_eq_zero h1
    have hr1' : r1 = be4 w32 ++ (b ++ z) := by rw [hr1, if_pos rfl, List.append_assoc]
    have h4 : r1.take 4 = be4 w32 := by rw [hr1']; rfl
    have h5 : r1.drop 4 = b ++ z := by rw [hr1']; rfl
    have h6 : r1.length = 4 + (b ++ z).length := by rw [hr1', List.length_append]; rfl
    (repeat (first | (refine i_dst ?_; (first | (refine i_move ?_; refine l_q rfl rfl rfl (q_move rfl) ?_) | (refine i_assign ?_; refine l_q rfl rfl rfl (q_assign rfl) ?_) | (refine i_sl ?_; refine l_q rfl rfl rfl (by (exact q_slLo tab rfl rfl rfl rfl (by first | (with_reducible exact Int.toNat_natCast _) | (with_reducible exact Int.toNat_zero) | (with_reducible exact Int.toNat_one) | rfl) (by (omega)))) ?_))) | refine d_seq ?_ | refine c_region ?_ | refine l_nil ?_ | (refine i_q ?_; (refine d_then ?_)) | (refine i_cond ?_; (refine c_ct rfl (by (rfl)) ?_))))
    (refine l_call0 rfl rfl Try.func48 rfl (by decide) (fun w' h => ntake_spec (roOf0 h hrest2) ⟨by omega, by omega⟩ ⟨by omega, by omega⟩) (fun v B hv => ?_); obtain ⟨A4, c4, rfl, rfl⟩ := hv)
    rw [h4, beV_be4 hw32, h5]
    refine l_fact (p := n - 1 - s - 4 ≤ c4 ∧ c4 ≤ maxLen) (fun w h => ?_) ?_
    · obtain ⟨A', c', e1, e2, e3, -⟩ := bytesA_ro (h.mem (X := bytesA (.slice A4 (n - 1 - s - 4) c4) (b ++ z)) (by first | ((repeat (first | exact List.Mem.head _ | apply List.Mem.tail)); done) | fail))
      injection e1 with _ e4 e5
      omega
    rintro ⟨hc4, hc5⟩
    have hk : n - 1 - s - 4 = (b ++ z).length := by omega
    have hbz : b.length ≤ n - 1 - s - 4 := by rw [hk, List.length_append]; omega
    (repeat (first | (refine i_dst ?_; (first | (refine i_move ?_; refine l_q rfl rfl rfl (q_move rfl) ?_) | (refine i_assign ?_; refine l_q rfl rfl rfl (q_assign rfl) ?_) | (refine i_load ?_; refine l_q rfl rfl rfl (by ((exact q_ldN tab rfl rfl rfl rfl (by first | ((repeat (first | exact List.Mem.head _ | apply List.Mem.tail)); done) | fail) (by first | ((repeat (first | exact TakeR.nil | apply TakeR.cons | apply CutR.zero | apply CutR.skip)); done) | fail)))) ?_) | (refine i_bin ?_; refine l_q rfl rfl rfl (by (exact q_neq rfl rfl)) ?_) | (refine l_q rfl rfl rfl (by (first | exact q_extract rfl rfl | (apply iq_fld; (exact q_fieldAddr tab rfl rfl rfl rfl rfl rfl rfl)) | (apply iq_cv; (exact q_conv tab rfl rfl rfl (by (exact wr_u32 (by omega))))))) ?_))) | refine d_seq ?_ | refine c_region ?_ | refine l_nil ?_ | (refine i_q ?_; (refine d_then ?_)) | refine c_skip ?_ | (refine i_store ?_; ((refine l_set tab rfl rfl rfl rfl (by first | ((repeat (first | exact Upd.head | apply Upd.tail)); done) | fail) (by first | ((repeat (first | exact LSet.zero | apply LSet.succ)); done) | fail) ?_))) | (refine i_cond ?_; (refine c_cf rfl (by (rfl)) ?_))))
    (refine l_call0 rfl rfl Try.func49 rfl (by decide) (fun w' h => cneeds_spec code a0 a1 a2 a3 a4 w32 ha (.slice none 0 0) m w' rfl) (fun v B hv => ?_); obtain ⟨rfl, rfl⟩ := hv)
    rw [← hfit.n]
    (repeat (first | (refine i_dst ?_; (first | (refine i_move ?_; refine l_q rfl rfl rfl (q_move rfl) ?_) | (refine i_assign ?_; refine l_q rfl rfl rfl (q_assign rfl) ?_) | (refine i_bin ?_; refine l_q rfl rfl rfl (by (exact q_lss rfl rfl)) ?_) | (refine i_blt ?_; refine l_q rfl rfl rfl (by (exact q_len tab rfl rfl)) ?_) | (refine i_sl ?_; refine l_q rfl rfl rfl (by (exact q_slHi tab rfl rfl rfl rfl (by first | (with_reducible exact Int.toNat_natCast _) | (with_reducible exact Int.toNat_zero) | (with_reducible exact Int.toNat_one) | rfl) (by (omega)))) ?_))) | refine d_seq ?_ | refine c_region ?_ | refine l_nil ?_ | (refine i_q ?_; (refine d_then ?_)) | refine c_skip ?_ | (refine i_cond ?_; (refine c_cf rfl (by (exact decide_eq_false (by omega))) ?_))))
    (refine l_call0 rfl rfl Try.func36 rfl (by decide) (fun w' h => clone_spec _ b.length _ b w' (by have h1 := (Ro.bytes (Ro.empty (h.mem (X := bytesA (.slice A4 (n - 1 - s - 4) c4) (b ++ z)) (by first | ((repeat (first | exact List.Mem.head _ | apply List.Mem.tail)); done) | fail)))).take (k := b.length) hbz; rw [List.take_left] at h1; exact h1) (by omega)) (fun v B hv => ?_); obtain ⟨Ab, cb, rfl, rfl⟩ := hv)
    (repeat (first | (refine i_dst ?_; (first | (refine i_assign ?_; refine l_q rfl rfl rfl (q_assign rfl) ?_) | (refine i_load ?_; refine l_q rfl rfl rfl (by ((exact q_ldN tab rfl rfl rfl rfl (by first | ((repeat (first | exact List.Mem.head _ | apply List.Mem.tail)); done) | fail) (by first | ((repeat (first | exact TakeR.nil | apply TakeR.cons | apply CutR.zero | apply CutR.skip)); done) | fail)))) ?_) | (refine l_q rfl rfl rfl (by ((apply iq_fld; (exact q_fieldAddr tab rfl rfl rfl rfl rfl rfl rfl)))) ?_))) | refine d_seq ?_ | refine c_region ?_ | refine l_nil ?_ | (refine i_q ?_; (refine d_then ?_)) | refine c_ret ?_ | (refine i_store ?_; (first | (refine l_set tab rfl rfl rfl rfl (by first | ((repeat (first | exact Upd.head | apply Upd.tail)); done) | fail) (by first | ((repeat (first | exact LSet.zero | apply LSet.succ)); done) | fail) ?_) | (refine l_setN tab rfl rfl rfl rfl (List.cons_ne_nil _ _) rfl (by first | ((repeat (first | exact Upd.head | apply Upd.tail)); done) | fail) (by first | ((repeat (first | exact LSets.nil | exact LSet.zero | apply LSets.cons | apply LSet.succ)); done) | fail) ?_)))))
    exact t_ret2h (hp' := [bytesA (.slice Ab b.length cb) b]) Try.results24 (res_cellM (l := [.int .u8 code, .int .u8 a0, .int .u8 a1, .int .u8 a2, .int .u8 a3, .int .u8 a4, .int .u32 w32, .slice Ab b.length cb]) tab rfl rfl rfl rfl (by first | ((repeat (first | exact List.Mem.head _ | apply List.Mem.tail)); done) | fail) rfl) rfl (fun w h => h.psub (by first | ((repeat (first | exact PSub.nil | exact Ext.head | apply Ext.tail | apply PSub.cons)); done) | fail)) ⟨Ab, cb, rfl, rfl⟩
  | false =>
    have hw0 := hfit.w rfl
    have hr1' : r1 = b ++ z := by rw [hr1, if_neg (by simp), List.nil_append]
    rw [hr1'] at hrest2 hn1
    have hbz : b.length ≤ n - 1 - s := by rw [hn1, List.length_append]; omega
    (repeat (first | (refine i_dst ?_; (first | (refine i_move ?_; refine l_q rfl rfl rfl (q_move rfl) ?_) | (refine i_assign ?_; refine l_q rfl rfl rfl (q_assign rfl) ?_) | (refine i_load ?_; refine l_q rfl rfl rfl (by ((exact q_ldN tab rfl rfl rfl rfl (by first | ((repeat (first | exact List.Mem.head _ | apply List.Mem.tail)); done) | fail) (by first | ((repeat (first | exact TakeR.nil | apply TakeR.cons | apply CutR.zero | apply CutR.skip)); done) | fail)))) ?_) | (refine i_sl ?_; refine l_q rfl rfl rfl (by (exact q_slLo tab rfl rfl rfl rfl (by first | (with_reducible exact Int.toNat_natCast _) | (with_reducible exact Int.toNat_zero) | (with_reducible exact Int.toNat_one) | rfl) (by (omega)))) ?_))) | refine d_seq ?_ | refine c_region ?_ | refine l_nil ?_ | (refine i_q ?_; (refine d_then ?_)) | refine c_skip ?_ | (refine i_cond ?_; (refine c_cf rfl (by (rfl)) ?_))))
    (refine l_call0 rfl rfl Try.func49 rfl (by decide) (fun w' h => cneeds_spec code a0 a1 a2 a3 a4 0 ha (.slice none 0 0) m w' rfl) (fun v B hv => ?_); obtain ⟨rfl, rfl⟩ := hv)
    rw [← hfit.n]
    (repeat (first | (refine i_dst ?_; (first | (refine i_move ?_; refine l_q rfl rfl rfl (q_move rfl) ?_) | (refine i_assign ?_; refine l_q rfl rfl rfl (q_assign rfl) ?_) | (refine i_bin ?_; refine l_q rfl rfl rfl (by (exact q_lss rfl rfl)) ?_) | (refine i_blt ?_; refine l_q rfl rfl rfl (by (exact q_len tab rfl rfl)) ?_) | (refine i_sl ?_; refine l_q rfl rfl rfl (by (exact q_slHi tab rfl rfl rfl rfl (by first | (with_reducible exact Int.toNat_natCast _) | (with_reducible exact Int.toNat_zero) | (with_reducible exact Int.toNat_one) | rfl) (by (omega)))) ?_))) | refine d_seq ?_ | refine c_region ?_ | refine l_nil ?_ | (refine i_q ?_; (refine d_then ?_)) | refine c_skip ?_ | (refine i_cond ?_; (refine c_cf rfl (by (exact decide_eq_false (by omega))) ?_))))
    (refine l_call0 rfl rfl Try.func36 rfl (by decide) (fun w' h => clone_spec _ b.length _ b w' (by have h1 := (roOf0 h hrest2).take (k := b.length) hbz; rw [List.take_left] at h1; exact h1) (by omega)) (fun v B hv => ?_); obtain ⟨Ab, cb, rfl, rfl⟩ := hv)
    (repeat (first | (refine i_dst ?_; (first | (refine i_assign ?_; refine l_q rfl rfl rfl (q_assign rfl) ?_) | (refine i_load ?_; refine l_q rfl rfl rfl (by ((exact q_ldN tab rfl rfl rfl rfl (by first | ((repeat (first | exact List.Mem.head _ | apply List.Mem.tail)); done) | fail) (by first | ((repeat (first | exact TakeR.nil | apply TakeR.cons | apply CutR.zero | apply CutR.skip)); done) | fail)))) ?_) | (refine l_q rfl rfl rfl (by ((apply iq_fld; (exact q_fieldAddr tab rfl rfl rfl rfl rfl rfl rfl)))) ?_))) | refine d_seq ?_ | refine c_region ?_ | refine l_nil ?_ | (refine i_q ?_; (refine d_then ?_)) | refine c_ret ?_ | (refine i_store ?_; (first | (refine l_set tab rfl rfl rfl rfl (by first | ((repeat (first | exact Upd.head | apply Upd.tail)); done) | fail) (by first | ((repeat (first | exact LSet.zero | apply LSet.succ)); done) | fail) ?_) | (refine l_setN tab rfl rfl rfl rfl (List.cons_ne_nil _ _) rfl (by first | ((repeat (first | exact Upd.head | apply Upd.tail)); done) | fail) (by first | ((repeat (first | exact LSets.nil | exact LSet.zero | apply LSets.cons | apply LSet.succ)); done) | fail) ?_)))))
    exact t_ret2h (hp' := [bytesA (.slice Ab b.length cb) b]) Try.results24 (res_cellM (l := [.int .u8 code, .int .u8 a0, .int .u8 a1, .int .u8 a2, .int .u8 a3, .int .u8 a4, .int .u32 0, .slice Ab b.length cb]) tab rfl rfl rfl rfl (by first | ((repeat (first | exact List.Mem.head _ | apply List.Mem.tail)); done) | fail) rfl) rfl (fun w h => h.psub (by first | ((repeat (first | exact PSub.nil | exact Ext.head | apply Ext.tail | apply PSub.cons)); done) | fail)) ⟨Ab, cb, by rw [hw0]; rfl, rfl⟩
end Go.Proofs.Ytidekbijkknlmaa

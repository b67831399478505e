/-
  TopWire, walked.
-/
import Derived.Test.YtidekbijkknlmaaSLl
import Derived.Test.YtidekbijkknlmaaB9
import Derived.Test.YtidekbijkknlmaaC4
import Derived.Test.YtidekbijkknlmaaD2
set_option linter.unusedVariables false
set_option maxRecDepth 100000
namespace Go.Proofs.Ytidekbijkknlmaa
open Go.RowKit
attribute [local irreducible] TL TC TQ TK TO Qt TA
theorem rep_le {kd rc n : Nat} {hd b : List Int} (h : RepHd kd rc n hd) (hb : b.length = n) : (hd ++ b).length ≤ 8 := by
  rw [List.length_append]
  rcases h with ⟨-, -, h, rfl⟩ | ⟨-, h, rfl⟩ | ⟨-, h, rfl⟩ | ⟨-, -, h, rfl⟩ <;> simp <;> omega
theorem enc_le {code a0 a1 a2 a3 a4 w32 n s m : Nat} {g : Bool} {b : List Int} (h : FitsOk code a0 a1 a2 a3 a4 w32 n s g m) (hb : b.length = n) : (encC code a0 a1 a2 a3 a4 w32 b s g).length ≤ 8 := by
  obtain ⟨⟨h1, h2⟩, h3, h4, h5, -⟩ := shape_some h.sh
  have h6 := h.n
  have hal : ((asI a0 a1 a2 a3 a4).take s).length = min s 5 := by rw [List.length_take]; rfl
  unfold needsC at h6
  rw [encC, List.length_append, List.length_append, List.length_cons, hal, hb]
  cases g with
  | true =>
    obtain ⟨q1, q2⟩ := h3 rfl
    rw [q2, if_neg (by omega)] at h6
    rw [if_pos rfl]
    show min s 5 + 1 + 4 + n ≤ 8
    omega
  | false =>
    rw [if_neg (by simp), List.length_nil]
    split at h6 <;> omega
theorem pad_ex (pad : Bool) {l : List Int} (h : l.length ≤ 8) : ∃ z, padB pad l = l ++ z ∧ (l ++ z).length ≤ 8 := by
  cases pad with
  | true =>
    refine ⟨List.replicate (8 - l.length) 0, rfl, ?_⟩
    rw [List.length_append, List.length_replicate]
    omega
  | false => exact ⟨[], (List.append_nil l).symm, by rw [List.append_nil]; exact h⟩
attribute [local irreducible] blk row bytesA starL memA segA roB
theorem works_spec (w : World) : Calls Try.prog 27 #[] w (Ret w [] fun v B => v = .bool true ∧ B = []) := by
  refine enter (vs := []) Try.func27 rfl Try.ntmps27 rfl (Hold.nil w) ?_
  have hmx : maxLen = 2 ^ 63 - 1 := rfl
  (repeat (first | (refine i_dst ?_; (first | (refine i_assign ?_; refine l_q rfl rfl rfl (q_assign rfl) ?_) | (refine i_bldS ?_; refine l_bldS tab rfl rfl rfl rfl (by first | exact CellsOf.agg | exact CellsOf.one rfl) (by first | ((repeat (first | exact RepR.zero | exact AppR.nil | apply RepR.succ | apply AppR.cons)); done) | fail) (by first | ((repeat (first | exact FillR.nil | exact LSets.nil | exact LSet.zero | exact CellsOf.agg | exact rfl | exact CellsOf.one rfl | apply FillR.cons | apply LSets.cons | apply LSet.succ)); done) | fail) (fun w => by kernel_rfl) (fun _ => ?_)))) | refine d_seq ?_ | refine c_region ?_ | refine l_nil ?_ | (refine i_q ?_; (refine d_then ?_))))
  rename_i g
  (refine l_call0 rfl rfl Try.func42 rfl (by decide) (fun w' h => make_spec 1 (by omega) [2] (by simp) (Ro.bytes (n := 1) (c := 1) (Ro.empty (bytesA_shut (l := [2]) (junk := []) (h.mem (X := blk g [.int .u8 2] _) (by first | ((repeat (first | exact List.Mem.head _ | apply List.Mem.tail)); done) | fail)) (fun x hx => by simp at hx; omega) rfl (by omega))))) (fun v B hv => ?_); obtain ⟨rfl, rfl⟩ := hv)
  rw [show frV 1 [2] = .agg #[.int .u32 1, .bool false, .int .i64 1, .int .u8 2, .int .u8 0, .int .u8 0, .int .u8 0, .int .u8 0, .int .u8 0, .int .u8 0, .int .u8 0] from rfl]
  (repeat (first | (refine i_dst ?_; (first | (refine i_move ?_; refine l_q rfl rfl rfl (q_move rfl) ?_) | (refine i_assign ?_; refine l_q rfl rfl rfl (q_assign rfl) ?_) | (refine i_load ?_; refine l_q rfl rfl rfl (by ((exact q_ld1 tab rfl rfl rfl (by first | ((repeat (first | exact List.Mem.head _ | apply List.Mem.tail)); done) | fail) (by (rfl))))) ?_) | (refine i_bin ?_; refine l_q rfl rfl rfl (by (exact q_eql rfl rfl)) ?_) | (refine i_alloc ?_; (refine l_allocA tab rfl rfl (fun _ => ?_))) | (refine l_q rfl rfl rfl (by (first | exact q_extract rfl rfl | (apply iq_fld; (exact q_fieldAddr tab rfl rfl rfl rfl rfl rfl rfl)) | exact q_pick_t rfl rfl)) ?_))) | refine d_seq ?_ | refine c_region ?_ | refine l_nil ?_ | (refine i_q ?_; (refine d_then ?_)) | refine c_ret ?_ | (refine i_guard ?_; (refine l_gt rfl rfl rfl ?_)) | (refine i_store ?_; ((refine l_setN tab rfl rfl rfl rfl (List.cons_ne_nil _ _) rfl (by first | ((repeat (first | exact Upd.head | apply Upd.tail)); done) | fail) (by first | ((repeat (first | exact LSets.nil | exact LSet.zero | apply LSets.cons | apply LSet.succ)); done) | fail) ?_)))))
  exact t_hp (hp' := []) (fun w h => h.psub (by first | ((repeat (first | exact PSub.nil | exact Ext.head | apply Ext.tail | apply PSub.cons)); done) | fail)) (t_ret1 Try.results27 rfl ⟨rfl, rfl⟩)

set_option maxHeartbeats 16000000 in
theorem topWire_walk (W : World) (code a0 a1 a2 a3 a4 w32 : Nat) (hcd : code ≤ 255) (ha : a0 ≤ 255 ∧ a1 ≤ 255 ∧ a2 ≤ 255 ∧ a3 ≤ 255 ∧ a4 ≤ 255) (hw32 : w32 < 4294967296) (Ac : Option Addr) (nc cc : Nat) (bc : List Int) (hbc : (roB Ac nc bc).C W) (hnc : nc ≤ cc) (hcc : cc ≤ maxLen) (kd rc : Nat) (hkd : kd ≤ 255) (hrc8 : rc ≤ 255) (Ar : Option Addr) (nr cr : Nat) (br : List Int) (hbr : (roB Ar nr br).C W) (hnr : nr ≤ cr) (hcr : cr ≤ maxLen) (pad : Bool) :
    Calls Try.prog 5 #[.agg #[.int .u8 code, .int .u8 a0, .int .u8 a1, .int .u8 a2, .int .u8 a3, .int .u8 a4, .int .u32 w32, .slice Ac nc cc], .agg #[.int .u8 kd, .int .u8 rc, .slice Ar nr cr], .bool pad] W (Ret W [] fun v _ => v = .bool true) := by
  obtain ⟨n1, hn1⟩ : ∃ n, n = min nc 20 := ⟨_, rfl⟩
  obtain ⟨n2, hn2⟩ : ∃ n, n = min nr 20 := ⟨_, rfl⟩
  have hr1 := (Ro.empty hbc).take (k := n1) (by omega)
  have hr2 := (Ro.empty hbr).take (k := n2) (by omega)
  have hb1 := roB_len hr1.is
  have hb2 := roB_len hr2.is
  generalize bc.take n1 = b1 at hr1 hb1
  generalize br.take n2 = b2 at hr2 hb2
  refine enter (vs := [.agg #[.int .u8 code, .int .u8 a0, .int .u8 a1, .int .u8 a2, .int .u8 a3, .int .u8 a4, .int .u32 w32, .slice Ac nc cc], .agg #[.int .u8 kd, .int .u8 rc, .slice Ar nr cr], .bool pad]) Try.func5 rfl Try.ntmps5 rfl (Hold.nil W) ?_
  have hmx : maxLen = 2 ^ 63 - 1 := rfl
  (repeat (first | (refine i_dst ?_; (first | (refine i_assign ?_; refine l_q rfl rfl rfl (q_assign rfl) ?_) | (refine i_box ?_; (refine l_boxA rfl rfl (fun _ => ?_))))) | refine d_seq ?_ | refine c_region ?_ | refine l_nil ?_ | (refine i_q ?_; (refine d_then ?_))))
  rename_i b3 b4
  refine b_begin mixed [blk b3 [.int .u8 code, .int .u8 a0, .int .u8 a1, .int .u8 a2, .int .u8 a3, .int .u8 a4, .int .u32 w32, .slice Ac nc cc] 63, blk b4 [.int .u8 kd, .int .u8 rc, .slice Ar nr cr] 32] [blk b4 [.int .u8 kd, .int .u8 rc, .slice Ar nr cr] 32] [] 18 15 17 rfl (fun w h => h.psub (by first | ((repeat (first | exact PSub.nil | exact Ext.head | apply Ext.tail | apply PSub.cons)); done) | fail)) ?_
  refine b_hp (hp' := [blk b3 [.int .u8 code, .int .u8 a0, .int .u8 a1, .int .u8 a2, .int .u8 a3, .int .u8 a4, .int .u32 w32, .slice Ac nc cc] 63, blk b4 [.int .u8 kd, .int .u8 rc, .slice Ar nr cr] 32]) (fun w h => h.psub (by first | ((repeat (first | exact PSub.nil | exact Ext.head | apply Ext.tail | apply PSub.cons)); done) | fail)) (fun w h => h) ?_
  refine b_q0 0 rfl rfl rfl rfl rfl (by decide +kernel) (q_fieldAddr tab rfl rfl rfl rfl rfl rfl rfl) ?_
  refine b_q0 1 rfl rfl rfl rfl rfl (by decide +kernel) (q_ld1 tab rfl rfl rfl (by first | ((repeat (first | exact List.Mem.head _ | apply List.Mem.tail)); done) | fail) rfl) ?_
  refine b_q0 2 rfl rfl rfl rfl rfl (by decide +kernel) (q_fieldAddr tab rfl rfl rfl rfl rfl rfl rfl) ?_
  refine b_q0 3 rfl rfl rfl rfl rfl (by decide +kernel) (q_ld1 tab rfl rfl rfl (by first | ((repeat (first | exact List.Mem.head _ | apply List.Mem.tail)); done) | fail) rfl) ?_
  refine b_q0 4 rfl rfl rfl rfl rfl (by decide +kernel) (q_len tab rfl rfl) ?_
  refine b_q0 5 rfl rfl rfl rfl rfl (by decide +kernel) (q_minN rfl rfl) ?_
  refine b_q0 6 rfl rfl rfl rfl rfl (by decide +kernel) (q_slHi tab rfl rfl rfl rfl (by exact Int.toNat_natCast _) (by omega)) ?_
  refine b_q1 7 (fun w h => h.subl (by first | ((repeat (first | exact SubL.nil | apply SubL.keep | apply SubL.skip)); done) | fail)) rfl rfl rfl rfl rfl (by decide +kernel) (q_fieldAddr tab rfl rfl rfl rfl rfl rfl rfl) ?_
  refine b_q1 8 (fun w h => h.subl (by first | ((repeat (first | exact SubL.nil | apply SubL.keep | apply SubL.skip)); done) | fail)) rfl rfl rfl rfl rfl (by decide +kernel) (q_ld1 tab rfl rfl rfl (by first | ((repeat (first | exact List.Mem.head _ | apply List.Mem.tail)); done) | fail) rfl) ?_
  refine b_q1 9 (fun w h => h.subl (by first | ((repeat (first | exact SubL.nil | apply SubL.keep | apply SubL.skip)); done) | fail)) rfl rfl rfl rfl rfl (by decide +kernel) (q_fieldAddr tab rfl rfl rfl rfl rfl rfl rfl) ?_
  refine b_q1 10 (fun w h => h.subl (by first | ((repeat (first | exact SubL.nil | apply SubL.keep | apply SubL.skip)); done) | fail)) rfl rfl rfl rfl rfl (by decide +kernel) (q_ld1 tab rfl rfl rfl (by first | ((repeat (first | exact List.Mem.head _ | apply List.Mem.tail)); done) | fail) rfl) ?_
  refine b_q1 11 (fun w h => h.subl (by first | ((repeat (first | exact SubL.nil | apply SubL.keep | apply SubL.skip)); done) | fail)) rfl rfl rfl rfl rfl (by decide +kernel) (q_len tab rfl rfl) ?_
  refine b_q1 12 (fun w h => h.subl (by first | ((repeat (first | exact SubL.nil | apply SubL.keep | apply SubL.skip)); done) | fail)) rfl rfl rfl rfl rfl (by decide +kernel) (q_minN rfl rfl) ?_
  refine b_q1 13 (fun w h => h.subl (by first | ((repeat (first | exact SubL.nil | apply SubL.keep | apply SubL.skip)); done) | fail)) rfl rfl rfl rfl rfl (by decide +kernel) (q_slHi tab rfl rfl rfl rfl (by exact Int.toNat_natCast _) (by omega)) ?_
  refine b_q0 14 rfl rfl rfl rfl rfl (by decide +kernel) (q_fieldAddr tab rfl rfl rfl rfl rfl rfl rfl) ?_
  refine b_e 15 rfl (by decide +kernel) rfl (fun K hK => e_set tab rfl rfl rfl rfl (by first | ((repeat (first | exact Upd.head | apply Upd.tail)); done) | fail) (by first | ((repeat (first | exact LSet.zero | apply LSet.succ)); done) | fail) (hK _ _ (fun w h => by unfold Sy; exact h.subl (by first | ((repeat (first | exact SubL.nil | apply SubL.keep | apply SubL.skip)); done) | fail)) ?_))
  clear hK
  refine b_q1 16 (fun w h => h.subl (by first | ((repeat (first | exact SubL.nil | apply SubL.keep | apply SubL.skip)); done) | fail)) rfl rfl rfl rfl rfl (by decide +kernel) (q_fieldAddr tab rfl rfl rfl rfl rfl rfl rfl) ?_
  refine b_e 17 rfl (by decide +kernel) rfl (fun K hK => e_set tab rfl rfl rfl rfl (by first | ((repeat (first | exact Upd.head | apply Upd.tail)); done) | fail) (by first | ((repeat (first | exact LSet.zero | apply LSet.succ)); done) | fail) (hK _ _ (fun w h => by unfold Sy; exact h.subl (by first | ((repeat (first | exact SubL.nil | apply SubL.keep | apply SubL.skip)); done) | fail)) ?_))
  clear hK
  refine b_done (by decide +kernel) ?_
  rw [← hn1, ← hn2]
  (repeat (first | (refine i_dst ?_; ((refine i_load ?_; refine l_q rfl rfl rfl (by ((exact q_ldN tab rfl rfl rfl rfl (by first | ((repeat (first | exact List.Mem.head _ | apply List.Mem.tail)); done) | fail) (by first | ((repeat (first | exact TakeR.nil | apply TakeR.cons | apply CutR.zero | apply CutR.skip)); done) | fail)))) ?_))) | refine d_seq ?_ | refine c_region ?_ | (refine i_q ?_; (refine d_then ?_))))
  (refine l_call0 rfl rfl Try.func22 rfl (by decide) (fun w' h => cput_spec code a0 a1 a2 a3 a4 w32 hcd ha hw32 Ac n1 cc b1 w' (roOf0 h hr1) (by omega)) (fun v B hv => ?_); obtain ⟨rfl, rfl⟩ | ⟨s, g, m, Ap, cp, hfit, rfl, rfl⟩ := hv)
  · (repeat (first | (refine i_dst ?_; (first | (refine i_move ?_; refine l_q rfl rfl rfl (q_move rfl) ?_) | (refine i_assign ?_; refine l_q rfl rfl rfl (q_assign rfl) ?_) | (refine i_load ?_; refine l_q rfl rfl rfl (by ((exact q_ldN tab rfl rfl rfl rfl (by first | ((repeat (first | exact List.Mem.head _ | apply List.Mem.tail)); done) | fail) (by first | ((repeat (first | exact TakeR.nil | apply TakeR.cons | apply CutR.zero | apply CutR.skip)); done) | fail)))) ?_) | (refine i_bin ?_; refine l_q rfl rfl rfl (by (exact q_eql rfl rfl)) ?_) | refine l_q rfl rfl rfl (by (exact q_extract rfl rfl)) ?_)) | refine d_seq ?_ | refine c_region ?_ | refine l_nil ?_ | (refine i_q ?_; (refine d_then ?_)) | refine c_skip ?_ | (refine i_cond ?_; (refine c_cf rfl (by (rfl)) ?_))))
    (refine l_call0 rfl rfl Try.func25 rfl (by decide) (fun w' h => rput_spec kd rc hkd hrc8 Ar n2 cr b2 w' (roOf0 h hr2) (by omega)) (fun v B hv => ?_); obtain ⟨rfl, rfl⟩ | ⟨hd, Av, cv, hrep, rfl, rfl⟩ := hv)
    · (repeat (first | (refine i_dst ?_; (first | (refine i_move ?_; refine l_q rfl rfl rfl (q_move rfl) ?_) | (refine i_assign ?_; refine l_q rfl rfl rfl (q_assign rfl) ?_) | (refine i_bin ?_; refine l_q rfl rfl rfl (by (exact q_eql rfl rfl)) ?_) | refine l_q rfl rfl rfl (by (exact q_extract rfl rfl)) ?_)) | refine d_seq ?_ | refine c_region ?_ | refine l_nil ?_ | (refine i_q ?_; (refine d_then ?_)) | refine c_skip ?_ | (refine i_cond ?_; (refine c_cf rfl (by (rfl)) ?_))))
      (refine l_call0 rfl rfl Try.func27 rfl (by decide) (fun w' h => works_spec w') (fun v B hv => ?_); obtain ⟨rfl, rfl⟩ := hv)
      (repeat (first | (refine i_dst ?_; (first | (refine i_move ?_; refine l_q rfl rfl rfl (q_move rfl) ?_) | (refine i_assign ?_; refine l_q rfl rfl rfl (q_assign rfl) ?_) | (refine i_bin ?_; refine l_q rfl rfl rfl (by (exact q_eql rfl rfl)) ?_) | refine l_q rfl rfl rfl (by (first | exact q_pick_t rfl rfl | exact q_pick_f rfl rfl)) ?_)) | refine l_nil ?_ | (refine i_q ?_; (refine d_then ?_)) | refine c_ret ?_ | (refine i_guard ?_; (refine l_gt rfl rfl rfl ?_))))
      exact t_hp (hp' := []) (fun w h => h.psub (by first | ((repeat (first | exact PSub.nil | exact Ext.head | apply Ext.tail | apply PSub.cons)); done) | fail)) (t_ret1 Try.results5 rfl rfl)
    · have hd8 : (hd ++ b2).length ≤ 8 := rep_le hrep hb2
      (repeat (first | (refine i_dst ?_; (first | (refine i_move ?_; refine l_q rfl rfl rfl (q_move rfl) ?_) | (refine i_assign ?_; refine l_q rfl rfl rfl (q_assign rfl) ?_) | (refine i_bin ?_; refine l_q rfl rfl rfl (by (exact q_eql rfl rfl)) ?_) | refine l_q rfl rfl rfl (by (exact q_extract rfl rfl)) ?_)) | refine d_seq ?_ | refine c_region ?_ | refine l_nil ?_ | (refine i_q ?_; (refine d_then ?_)) | (refine i_cond ?_; (refine c_ct rfl (by (rfl)) ?_))))
      refine l_fact (p := Oct (hd ++ b2)) (fun w h => bytesA_oct (h.mem (X := bytesA (.slice Av (hd ++ b2).length cv) (hd ++ b2)) (by first | ((repeat (first | exact List.Mem.head _ | apply List.Mem.tail)); done) | fail))) ?_
      intro hdo
      (refine l_call0 rfl rfl Try.func23 rfl (by decide) (fun w' h => over_spec (hd ++ b2) hd8 hdo (Ro.bytes (Ro.empty (h.mem (X := bytesA (.slice Av (hd ++ b2).length cv) (hd ++ b2)) (by first | ((repeat (first | exact List.Mem.head _ | apply List.Mem.tail)); done) | fail)))) false) (fun v B hv => ?_); obtain ⟨Aq, cq, rfl, rfl⟩ := hv)
      rw [show padB false (hd ++ b2) = hd ++ b2 from rfl]
      (repeat (first | (refine i_dst ?_; (first | (refine i_move ?_; refine l_q rfl rfl rfl (q_move rfl) ?_) | (refine i_assign ?_; refine l_q rfl rfl rfl (q_assign rfl) ?_) | refine l_q rfl rfl rfl (by (exact q_extract rfl rfl)) ?_)) | refine d_seq ?_ | refine c_region ?_ | refine l_nil ?_ | (refine i_q ?_; (refine d_then ?_))))
      refine l_fact (p := (hd ++ b2).length ≤ cq ∧ cq ≤ maxLen) (fun w h => ?_) ?_
      · obtain ⟨A', c', e1, e2, e3, -⟩ := bytesA_ro (h.mem (X := bytesA (.slice Aq (hd ++ b2).length cq) (hd ++ b2)) (by first | ((repeat (first | exact List.Mem.head _ | apply List.Mem.tail)); done) | fail))
        injection e1 with _ e4 e5
        omega
      intro hcq
      (refine l_call0 rfl rfl Try.func26 rfl (by decide) (fun w' h => rptake_spec kd rc n2 hrc8 hd b2 hb2 hrep Aq (hd ++ b2).length cq w' (Ro.bytes (Ro.empty (h.mem (X := bytesA (.slice Aq (hd ++ b2).length cq) (hd ++ b2)) (by first | ((repeat (first | exact List.Mem.head _ | apply List.Mem.tail)); done) | fail)))) hcq) (fun v B hv => ?_); obtain ⟨At, ct, u, l', rfl, rfl, hro⟩ := hv)
      have hst : ((strOfNums b2).toList == (strOfNums b2).toList) = true := by simp
      rw [hb2]
      (repeat (first | (refine i_dst ?_; (first | (refine i_move ?_; refine l_q rfl rfl rfl (q_move rfl) ?_) | (refine i_assign ?_; refine l_q rfl rfl rfl (q_assign rfl) ?_) | (refine i_load ?_; refine l_q rfl rfl rfl (by ((exact q_ld1 tab rfl rfl rfl (by first | ((repeat (first | exact List.Mem.head _ | apply List.Mem.tail)); done) | fail) (by (rfl))))) ?_) | (refine i_bin ?_; refine l_q rfl rfl rfl (by (exact q_neq rfl rfl)) ?_) | (refine i_alloc ?_; (refine l_allocA tab rfl rfl (fun _ => ?_))) | (refine l_q rfl rfl rfl (by (first | exact q_extract rfl rfl | (apply iq_fld; (exact q_fieldAddr tab rfl rfl rfl rfl rfl rfl rfl)) | exact q_not rfl | exact q_pick_f rfl rfl)) ?_))) | refine d_seq ?_ | refine c_region ?_ | refine l_nil ?_ | (refine i_q ?_; (refine d_then ?_)) | (refine i_guard ?_; (first | refine l_gt rfl rfl rfl ?_ | (refine l_gtd rfl rfl rfl (by (((first | (simp; done) | fail)))) ?_))) | (refine i_store ?_; ((refine l_setN tab rfl rfl rfl rfl (List.cons_ne_nil _ _) rfl (by first | ((repeat (first | exact Upd.head | apply Upd.tail)); done) | fail) (by first | ((repeat (first | exact LSets.nil | exact LSet.zero | apply LSets.cons | apply LSet.succ)); done) | fail) ?_)))))
      refine i_dst (l_q rfl rfl rfl (q_str tab rfl rfl rfl rfl (fun w h => (hb2 ▸ (hro _ _ (Ro.empty (h.mem (X := bytesA u l') (by first | ((repeat (first | exact List.Mem.head _ | apply List.Mem.tail)); done) | fail)))).is : (roB At n2 b2).C w))) ?_)
      (repeat (first | (refine i_dst ?_; (first | (refine i_load ?_; refine l_q rfl rfl rfl (by ((exact q_ld1 tab rfl rfl rfl (by first | ((repeat (first | exact List.Mem.head _ | apply List.Mem.tail)); done) | fail) (by (rfl))))) ?_) | (refine i_bin ?_; refine l_q rfl rfl rfl (by (exact q_nes rfl rfl)) ?_) | (refine l_q rfl rfl rfl (by (first | (apply iq_fld; (exact q_fieldAddr tab rfl rfl rfl rfl rfl rfl rfl)) | (apply iq_cv; (exact q_str tab rfl rfl rfl rfl (fun w h => h.ro (by assumption)))) | exact q_pick_f rfl rfl)) ?_))) | refine d_seq ?_ | refine c_region ?_ | refine l_nil ?_ | (refine i_q ?_; (refine d_then ?_)) | refine c_skip ?_ | (refine i_guard ?_; (refine l_gt rfl rfl rfl ?_)) | (refine i_cond ?_; ((refine c_cf rfl (by (((first | (simp; done) | fail)))) ?_)))))
      (refine l_call0 rfl rfl Try.func27 rfl (by decide) (fun w' h => works_spec w') (fun v B hv => ?_); obtain ⟨rfl, rfl⟩ := hv)
      (repeat (first | (refine i_dst ?_; (first | (refine i_move ?_; refine l_q rfl rfl rfl (q_move rfl) ?_) | (refine i_assign ?_; refine l_q rfl rfl rfl (q_assign rfl) ?_) | (refine i_bin ?_; refine l_q rfl rfl rfl (by (exact q_eql rfl rfl)) ?_) | refine l_q rfl rfl rfl (by (first | exact q_pick_t rfl rfl | exact q_pick_f rfl rfl)) ?_)) | refine l_nil ?_ | (refine i_q ?_; (refine d_then ?_)) | refine c_ret ?_ | (refine i_guard ?_; (first | refine l_gt rfl rfl rfl ?_ | refine l_gf rfl rfl rfl rfl rfl rfl ?_))))
      exact t_hp (hp' := []) (fun w h => h.psub (by first | ((repeat (first | exact PSub.nil | exact Ext.head | apply Ext.tail | apply PSub.cons)); done) | fail)) (t_ret1 Try.results5 rfl rfl)
  · have he8 := enc_le hfit hb1
    generalize hE : encC code a0 a1 a2 a3 a4 w32 b1 s g = E at he8
    (repeat (first | (refine i_dst ?_; (first | (refine i_move ?_; refine l_q rfl rfl rfl (q_move rfl) ?_) | (refine i_assign ?_; refine l_q rfl rfl rfl (q_assign rfl) ?_) | (refine i_bin ?_; refine l_q rfl rfl rfl (by (exact q_eql rfl rfl)) ?_) | refine l_q rfl rfl rfl (by (exact q_extract rfl rfl)) ?_)) | refine d_seq ?_ | refine c_region ?_ | refine l_nil ?_ | (refine i_q ?_; (refine d_then ?_)) | (refine i_cond ?_; (refine c_ct rfl (by (rfl)) ?_))))
    refine l_fact (p := Oct E) (fun w h => bytesA_oct (h.mem (X := bytesA (.slice Ap E.length cp) E) (by first | ((repeat (first | exact List.Mem.head _ | apply List.Mem.tail)); done) | fail))) ?_
    intro hEo
    (refine l_call0 rfl rfl Try.func23 rfl (by decide) (fun w' h => over_spec E he8 hEo (Ro.bytes (Ro.empty (h.mem (X := bytesA (.slice Ap E.length cp) E) (by first | ((repeat (first | exact List.Mem.head _ | apply List.Mem.tail)); done) | fail)))) pad) (fun v B hv => ?_); obtain ⟨Aq, cq, rfl, rfl⟩ := hv)
    obtain ⟨z, hz, hz8⟩ := pad_ex pad he8
    rw [hz]
    (repeat (first | (refine i_dst ?_; (first | (refine i_move ?_; refine l_q rfl rfl rfl (q_move rfl) ?_) | (refine i_assign ?_; refine l_q rfl rfl rfl (q_assign rfl) ?_) | refine l_q rfl rfl rfl (by (exact q_extract rfl rfl)) ?_)) | refine d_seq ?_ | refine c_region ?_ | refine l_nil ?_ | (refine i_q ?_; (refine d_then ?_))))
    refine l_fact (p := (E ++ z).length ≤ cq ∧ cq ≤ maxLen) (fun w h => ?_) ?_
    · obtain ⟨A', c', e1, e2, e3, -⟩ := bytesA_ro (h.mem (X := bytesA (.slice Aq (E ++ z).length cq) (E ++ z)) (by first | ((repeat (first | exact List.Mem.head _ | apply List.Mem.tail)); done) | fail))
      injection e1 with _ e4 e5
      omega
    intro hcq
    (refine l_call0 rfl rfl Try.func24 rfl (by decide) (fun w' h => ctake_spec code a0 a1 a2 a3 a4 w32 ha.1 hcd hw32 b1 z s m g (by rw [hb1]; exact hfit) Aq (E ++ z).length cq w' (by rw [hE]; exact Ro.bytes (Ro.empty (h.mem (X := bytesA (.slice Aq (E ++ z).length cq) (E ++ z)) (by first | ((repeat (first | exact List.Mem.head _ | apply List.Mem.tail)); done) | fail)))) (by omega) hcq) (fun v B hv => ?_); obtain ⟨At, ct, rfl, rfl⟩ := hv)
    rw [hb1]
    (repeat (first | (refine i_dst ?_; (first | (refine i_move ?_; refine l_q rfl rfl rfl (q_move rfl) ?_) | (refine i_assign ?_; refine l_q rfl rfl rfl (q_assign rfl) ?_) | (refine i_load ?_; refine l_q rfl rfl rfl (by (first | (exact q_ld1 tab rfl rfl rfl (by first | ((repeat (first | exact List.Mem.head _ | apply List.Mem.tail)); done) | fail) (by (rfl))) | (exact q_ldN tab rfl rfl rfl rfl (by first | ((repeat (first | exact List.Mem.head _ | apply List.Mem.tail)); done) | fail) (by first | ((repeat (first | exact TakeR.nil | apply TakeR.cons | apply CutR.zero | apply CutR.skip)); done) | fail)))) ?_) | (refine i_bin ?_; refine l_q rfl rfl rfl (by (exact q_neq rfl rfl)) ?_) | (refine i_alloc ?_; (refine l_allocA tab rfl rfl (fun _ => ?_))) | (refine l_q rfl rfl rfl (by (first | exact q_extract rfl rfl | (apply iq_fld; (exact q_fieldAddr tab rfl rfl rfl rfl rfl rfl rfl)) | exact q_not rfl | exact q_pick_f rfl rfl)) ?_))) | refine d_seq ?_ | refine c_region ?_ | refine l_nil ?_ | (refine i_q ?_; (refine d_then ?_)) | (refine i_guard ?_; (first | refine l_gt rfl rfl rfl ?_ | (refine l_gtd rfl rfl rfl (by (((first | (simp; done) | fail)))) ?_))) | (refine i_store ?_; ((refine l_setN tab rfl rfl rfl rfl (List.cons_ne_nil _ _) rfl (by first | ((repeat (first | exact Upd.head | apply Upd.tail)); done) | fail) (by first | ((repeat (first | exact LSets.nil | exact LSet.zero | apply LSets.cons | apply LSet.succ)); done) | fail) ?_)))))
    refine i_dst (l_q rfl rfl rfl (q_neA5 rfl rfl) ?_)
    rw [show (!((a0 : Int) == (a0 : Int) && ((a1 : Int) == (a1 : Int) && ((a2 : Int) == (a2 : Int) && ((a3 : Int) == (a3 : Int) && (a4 : Int) == (a4 : Int)))))) = false by simp]
    (repeat (first | (refine i_dst ?_; (first | (refine i_move ?_; refine l_q rfl rfl rfl (q_move rfl) ?_) | (refine i_load ?_; refine l_q rfl rfl rfl (by (first | (exact q_ld1 tab rfl rfl rfl (by first | ((repeat (first | exact List.Mem.head _ | apply List.Mem.tail)); done) | fail) (by (rfl))) | (exact q_ldN tab rfl rfl rfl rfl (by first | ((repeat (first | exact List.Mem.head _ | apply List.Mem.tail)); done) | fail) (by first | ((repeat (first | exact TakeR.nil | apply TakeR.cons | apply CutR.zero | apply CutR.skip)); done) | fail)))) ?_) | (refine i_bin ?_; refine l_q rfl rfl rfl (by (first | exact q_neq rfl rfl | exact q_nes rfl rfl)) ?_) | (refine l_q rfl rfl rfl (by (first | (apply iq_fld; (exact q_fieldAddr tab rfl rfl rfl rfl rfl rfl rfl)) | (apply iq_cv; (first | (exact q_str tab rfl rfl rfl rfl (fun w h => roB_of (h.mem (by first | ((repeat (first | exact List.Mem.head _ | apply List.Mem.tail)); done) | fail)))) | exact q_str tab rfl rfl rfl rfl (fun w h => h.ro (by assumption)))) | exact q_pick_f rfl rfl)) ?_))) | refine d_seq ?_ | refine c_region ?_ | refine l_nil ?_ | (refine i_q ?_; (refine d_then ?_)) | refine c_skip ?_ | (refine i_guard ?_; (first | refine l_gt rfl rfl rfl ?_ | (refine l_gtd rfl rfl rfl (by (((first | (simp; done) | fail)))) ?_))) | (refine i_cond ?_; ((refine c_cf rfl (by (((first | (simp; done) | fail)))) ?_)))))
    (refine l_call0 rfl rfl Try.func25 rfl (by decide) (fun w' h => rput_spec kd rc hkd hrc8 Ar n2 cr b2 w' (roOf0 h hr2) (by omega)) (fun v B hv => ?_); obtain ⟨rfl, rfl⟩ | ⟨hd, Av, cv, hrep, rfl, rfl⟩ := hv)
    · (repeat (first | (refine i_dst ?_; (first | (refine i_move ?_; refine l_q rfl rfl rfl (q_move rfl) ?_) | (refine i_assign ?_; refine l_q rfl rfl rfl (q_assign rfl) ?_) | (refine i_bin ?_; refine l_q rfl rfl rfl (by (exact q_eql rfl rfl)) ?_) | refine l_q rfl rfl rfl (by (exact q_extract rfl rfl)) ?_)) | refine d_seq ?_ | refine c_region ?_ | refine l_nil ?_ | (refine i_q ?_; (refine d_then ?_)) | refine c_skip ?_ | (refine i_cond ?_; (refine c_cf rfl (by (rfl)) ?_))))
      (refine l_call0 rfl rfl Try.func27 rfl (by decide) (fun w' h => works_spec w') (fun v B hv => ?_); obtain ⟨rfl, rfl⟩ := hv)
      (repeat (first | (refine i_dst ?_; (first | (refine i_move ?_; refine l_q rfl rfl rfl (q_move rfl) ?_) | (refine i_assign ?_; refine l_q rfl rfl rfl (q_assign rfl) ?_) | (refine i_bin ?_; refine l_q rfl rfl rfl (by (exact q_eql rfl rfl)) ?_) | refine l_q rfl rfl rfl (by (first | exact q_pick_t rfl rfl | exact q_pick_f rfl rfl)) ?_)) | refine l_nil ?_ | (refine i_q ?_; (refine d_then ?_)) | refine c_ret ?_ | (refine i_guard ?_; (first | refine l_gt rfl rfl rfl ?_ | refine l_gf rfl rfl rfl rfl rfl rfl ?_))))
      exact t_hp (hp' := []) (fun w h => h.psub (by first | ((repeat (first | exact PSub.nil | exact Ext.head | apply Ext.tail | apply PSub.cons)); done) | fail)) (t_ret1 Try.results5 rfl rfl)
    · have hd8 : (hd ++ b2).length ≤ 8 := rep_le hrep hb2
      (repeat (first | (refine i_dst ?_; (first | (refine i_move ?_; refine l_q rfl rfl rfl (q_move rfl) ?_) | (refine i_assign ?_; refine l_q rfl rfl rfl (q_assign rfl) ?_) | (refine i_bin ?_; refine l_q rfl rfl rfl (by (exact q_eql rfl rfl)) ?_) | refine l_q rfl rfl rfl (by (exact q_extract rfl rfl)) ?_)) | refine d_seq ?_ | refine c_region ?_ | refine l_nil ?_ | (refine i_q ?_; (refine d_then ?_)) | (refine i_cond ?_; (refine c_ct rfl (by (rfl)) ?_))))
      refine l_fact (p := Oct (hd ++ b2)) (fun w h => bytesA_oct (h.mem (X := bytesA (.slice Av (hd ++ b2).length cv) (hd ++ b2)) (by first | ((repeat (first | exact List.Mem.head _ | apply List.Mem.tail)); done) | fail))) ?_
      intro hdo
      (refine l_call0 rfl rfl Try.func23 rfl (by decide) (fun w' h => over_spec (hd ++ b2) hd8 hdo (Ro.bytes (Ro.empty (h.mem (X := bytesA (.slice Av (hd ++ b2).length cv) (hd ++ b2)) (by first | ((repeat (first | exact List.Mem.head _ | apply List.Mem.tail)); done) | fail)))) false) (fun v B hv => ?_); obtain ⟨Aq, cq, rfl, rfl⟩ := hv)
      rw [show padB false (hd ++ b2) = hd ++ b2 from rfl]
      (repeat (first | (refine i_dst ?_; (first | (refine i_move ?_; refine l_q rfl rfl rfl (q_move rfl) ?_) | (refine i_assign ?_; refine l_q rfl rfl rfl (q_assign rfl) ?_) | refine l_q rfl rfl rfl (by (exact q_extract rfl rfl)) ?_)) | refine d_seq ?_ | refine c_region ?_ | refine l_nil ?_ | (refine i_q ?_; (refine d_then ?_))))
      refine l_fact (p := (hd ++ b2).length ≤ cq ∧ cq ≤ maxLen) (fun w h => ?_) ?_
      · obtain ⟨A', c', e1, e2, e3, -⟩ := bytesA_ro (h.mem (X := bytesA (.slice Aq (hd ++ b2).length cq) (hd ++ b2)) (by first | ((repeat (first | exact List.Mem.head _ | apply List.Mem.tail)); done) | fail))
        injection e1 with _ e4 e5
        omega
      intro hcq
      (refine l_call0 rfl rfl Try.func26 rfl (by decide) (fun w' h => rptake_spec kd rc n2 hrc8 hd b2 hb2 hrep Aq (hd ++ b2).length cq w' (Ro.bytes (Ro.empty (h.mem (X := bytesA (.slice Aq (hd ++ b2).length cq) (hd ++ b2)) (by first | ((repeat (first | exact List.Mem.head _ | apply List.Mem.tail)); done) | fail)))) hcq) (fun v B hv => ?_); obtain ⟨At, ct, u, l', rfl, rfl, hro⟩ := hv)
      have hst : ((strOfNums b2).toList == (strOfNums b2).toList) = true := by simp
      rw [hb2]
      (repeat (first | (refine i_dst ?_; (first | (refine i_move ?_; refine l_q rfl rfl rfl (q_move rfl) ?_) | (refine i_assign ?_; refine l_q rfl rfl rfl (q_assign rfl) ?_) | (refine i_load ?_; refine l_q rfl rfl rfl (by ((exact q_ld1 tab rfl rfl rfl (by first | ((repeat (first | exact List.Mem.head _ | apply List.Mem.tail)); done) | fail) (by (rfl))))) ?_) | (refine i_bin ?_; refine l_q rfl rfl rfl (by (exact q_neq rfl rfl)) ?_) | (refine i_alloc ?_; (refine l_allocA tab rfl rfl (fun _ => ?_))) | (refine l_q rfl rfl rfl (by (first | exact q_extract rfl rfl | (apply iq_fld; (exact q_fieldAddr tab rfl rfl rfl rfl rfl rfl rfl)) | exact q_not rfl | exact q_pick_f rfl rfl)) ?_))) | refine d_seq ?_ | refine c_region ?_ | refine l_nil ?_ | (refine i_q ?_; (refine d_then ?_)) | (refine i_guard ?_; (first | refine l_gt rfl rfl rfl ?_ | (refine l_gtd rfl rfl rfl (by (((first | (simp; done) | fail)))) ?_))) | (refine i_store ?_; ((refine l_setN tab rfl rfl rfl rfl (List.cons_ne_nil _ _) rfl (by first | ((repeat (first | exact Upd.head | apply Upd.tail)); done) | fail) (by first | ((repeat (first | exact LSets.nil | exact LSet.zero | apply LSets.cons | apply LSet.succ)); done) | fail) ?_)))))
      refine i_dst (l_q rfl rfl rfl (q_str tab rfl rfl rfl rfl (fun w h => (hb2 ▸ (hro _ _ (Ro.empty (h.mem (X := bytesA u l') (by first | ((repeat (first | exact List.Mem.head _ | apply List.Mem.tail)); done) | fail)))).is : (roB At n2 b2).C w))) ?_)
      (repeat (first | (refine i_dst ?_; (first | (refine i_load ?_; refine l_q rfl rfl rfl (by ((exact q_ld1 tab rfl rfl rfl (by first | ((repeat (first | exact List.Mem.head _ | apply List.Mem.tail)); done) | fail) (by (rfl))))) ?_) | (refine i_bin ?_; refine l_q rfl rfl rfl (by (exact q_nes rfl rfl)) ?_) | (refine l_q rfl rfl rfl (by (first | (apply iq_fld; (exact q_fieldAddr tab rfl rfl rfl rfl rfl rfl rfl)) | (apply iq_cv; (exact q_str tab rfl rfl rfl rfl (fun w h => h.ro (by assumption)))) | exact q_pick_f rfl rfl)) ?_))) | refine d_seq ?_ | refine c_region ?_ | refine l_nil ?_ | (refine i_q ?_; (refine d_then ?_)) | refine c_skip ?_ | (refine i_guard ?_; (refine l_gt rfl rfl rfl ?_)) | (refine i_cond ?_; ((refine c_cf rfl (by (((first | (simp; done) | fail)))) ?_)))))
      (refine l_call0 rfl rfl Try.func27 rfl (by decide) (fun w' h => works_spec w') (fun v B hv => ?_); obtain ⟨rfl, rfl⟩ := hv)
      (repeat (first | (refine i_dst ?_; (first | (refine i_move ?_; refine l_q rfl rfl rfl (q_move rfl) ?_) | (refine i_assign ?_; refine l_q rfl rfl rfl (q_assign rfl) ?_) | (refine i_bin ?_; refine l_q rfl rfl rfl (by (exact q_eql rfl rfl)) ?_) | refine l_q rfl rfl rfl (by (exact q_pick_t rfl rfl)) ?_)) | refine l_nil ?_ | (refine i_q ?_; (refine d_then ?_)) | refine c_ret ?_ | (refine i_guard ?_; (first | refine l_gt rfl rfl rfl ?_ | refine l_gf rfl rfl rfl rfl rfl rfl ?_))))
      exact t_hp (hp' := []) (fun w h => h.psub (by first | ((repeat (first | exact PSub.nil | exact Ext.head | apply Ext.tail | apply PSub.cons)); done) | fail)) (t_ret1 Try.results5 rfl rfl)
end Go.Proofs.Ytidekbijkknlmaa

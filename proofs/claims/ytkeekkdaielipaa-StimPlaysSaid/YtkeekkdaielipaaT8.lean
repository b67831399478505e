/-
  Layer 14: alike, walked.
-/
import Derived.Test.YtkeekkdaielipaaR7
import Derived.Test.YtkeekkdaielipaaG2
set_option linter.unusedVariables false
set_option maxRecDepth 100000
namespace Go.Proofs.Ytkeekkdaielipaa
open Go.RowKit
attribute [local irreducible] TL TC TQ TK TO Qt TA

attribute [local irreducible] blk row bytesA starL memA segA roB

attribute [local irreducible] refA rsegA sees refL

set_option maxHeartbeats 8000000 in
theorem alike14_spec {p q : Nat} {m : MemV} {x : RefV} {w : World} (hm : Ro (fps []) w (memA p m)) (hq : Ro (fps []) w (refA q x)) (hk : MmOk m.abs) (he : x.abs = m.abs) :
    Calls Try.prog 36 #[.pointer (some ⟨p, 0, none⟩), .pointer (some ⟨q, 0, none⟩)] w (Ret w [] fun v B => v = .bool true ∧ B = []) := by
  have hkx : MmOk x.abs := by rw [he]; exact hk
  obtain ⟨⟨rv, ram, sv, segs⟩, ev⟩ := x
  refine enter (vs := [.pointer (some ⟨p, 0, none⟩), .pointer (some ⟨q, 0, none⟩)]) Try.func36 rfl Try.ntmps36 rfl (Hold.nil w) ?_
  obtain ⟨A, c, e1, hc1, hc2, -⟩ := row_slice hq.refRow.is
  obtain ⟨E, d, e2, hd1, hd2, -⟩ := row_slice hq.refSee.is
  obtain ⟨R, cr, e3, hr1, hr2, -⟩ := bytesA_ro hq.refRam.is
  dsimp only at e1 e2 e3
  subst e1 e2 e3
  have hb := hq.refBlk
  have hrow := hq.refRow.rowV1
  have hsee := hq.refSee.rowV
  have hram := hq.refRam.bytes
  have hn4 : segs.length ≤ 4 := by have := hkx.n4; simpa [RefV.abs, MemV.abs] using this
  have hrl : ram.length ≤ 1024 := hkx.ram
  dsimp only at hb hrow hsee hram
  have hmx : maxLen = 2 ^ 63 - 1 := rfl
  have hrd : readM m.abs 1 0 0 ram.length = (ram, 0) := by rw [← he]; exact read_all (f := false) (.inl rfl) rfl rfl
  (repeat (first | (refine i_dst ?_; (first | (refine i_move ?_; refine l_q rfl rfl rfl (q_move rfl) ?_) | (refine i_assign ?_; refine l_q rfl rfl rfl (q_assign rfl) ?_) | (refine i_load ?_; refine l_q rfl rfl rfl (by (exact q_ldRo tab rfl rfl rfl (by assumption) rfl)) ?_) | (refine i_blt ?_; refine l_q rfl rfl rfl (by (exact q_len tab rfl rfl)) ?_) | (refine l_q rfl rfl rfl (by (first | (apply iq_fld; (exact q_fieldAddr tab rfl rfl rfl rfl rfl rfl rfl)) | (apply iq_nck; (exact q_nilck rfl)))) ?_))) | refine d_seq ?_ | refine c_region ?_ | refine l_nil ?_ | (refine i_q ?_; (refine d_then ?_))))
  (refine l_call0 rfl rfl Try.func19 rfl (by decide) (fun w' h => read_spec (m := m) (roOf0 h hm) hk 1 0 0 ram.length (by omega) (by omega) (by omega) (by omega) (by omega)) (fun v B hv => ?_); obtain ⟨A4, c4, rfl, rfl⟩ := hv)
  rw [hrd]
  dsimp only
  (repeat (first | (refine i_dst ?_; (first | (refine i_move ?_; refine l_q rfl rfl rfl (q_move rfl) ?_) | (refine i_assign ?_; refine l_q rfl rfl rfl (q_assign rfl) ?_) | refine l_q rfl rfl rfl (by (exact q_extract rfl rfl)) ?_)) | refine d_seq ?_ | refine l_nil ?_ | (refine i_q ?_; (refine d_then ?_))))
  (refine a_begin mixed _ 12 rfl (fun w h => h) ?_)
  ((refine a_q 0 rfl rfl rfl rfl rfl (by decide +kernel) (q_move rfl) ?_; refine a_q 1 rfl rfl rfl rfl rfl (by decide +kernel) (by (exact q_neq rfl rfl)) ?_; refine a_q 2 rfl rfl rfl rfl rfl (by decide +kernel) (q_move rfl) ?_; (refine a_gt 3 rfl rfl rfl rfl rfl rfl rfl (by decide +kernel) (q_move rfl) ?_); ((refine a_gt 4 rfl rfl rfl rfl rfl rfl rfl (by decide +kernel) (by ((apply iq_cv; ((exact q_str tab rfl rfl rfl rfl (fun w h => roB_of (h.mem (by first | ((repeat (first | exact List.Mem.head _ | apply List.Mem.tail)); done) | fail)))))))) ?_)); (refine a_gt 5 rfl rfl rfl rfl rfl rfl rfl (by decide +kernel) (q_move rfl) ?_); ((refine a_gt 6 rfl rfl rfl rfl rfl rfl rfl (by decide +kernel) (by ((apply iq_nck; (exact q_nilck rfl)))) ?_)); ((refine a_gt 7 rfl rfl rfl rfl rfl rfl rfl (by decide +kernel) (by ((apply iq_fld; (exact q_fieldAddr tab rfl rfl rfl rfl rfl rfl rfl)))) ?_)); (refine a_gt 8 rfl rfl rfl rfl rfl rfl rfl (by decide +kernel) (by (exact q_ldRo tab rfl rfl rfl (by assumption) rfl)) ?_); ((refine a_gt 9 rfl rfl rfl rfl rfl rfl rfl (by decide +kernel) (by ((apply iq_cv; (exact q_str tab rfl rfl rfl rfl (fun w h => h.ro (by assumption)))))) ?_)); (refine a_gt 10 rfl rfl rfl rfl rfl rfl rfl (by decide +kernel) (by (exact q_nes rfl rfl)) ?_); refine a_q 11 rfl rfl rfl rfl rfl (by decide +kernel) (by (exact q_pick_f rfl rfl)) ?_))
  refine a_done (by decide +kernel) ?_
  (repeat (first | (refine i_dst ?_; (first | (refine i_move ?_; refine l_q rfl rfl rfl (q_move rfl) ?_) | (refine i_load ?_; refine l_q rfl rfl rfl (by (exact q_ldRo tab rfl rfl rfl (by assumption) rfl)) ?_) | (refine i_blt ?_; refine l_q rfl rfl rfl (by (exact q_len tab rfl rfl)) ?_) | (refine l_q rfl rfl rfl (by (first | (apply iq_fld; (exact q_fieldAddr tab rfl rfl rfl rfl rfl rfl rfl)) | (apply iq_nck; (exact q_nilck rfl)))) ?_))) | refine d_seq ?_ | refine c_region ?_ | refine l_nil ?_ | refine c_block ?_ | (refine i_q ?_; (refine d_then ?_)) | refine c_skip ?_ | (refine i_cond ?_; ((refine c_cf rfl (by (((first | (simp; done) | fail)))) ?_)))))
  refine d_loop (T := Nat) [0, 1, 39] (fun k => [(40, .int .i64 k)]) [] (fun _ => []) (fun k => k ≤ segs.length) (fun k => segs.length - k) 0 (by first | ((repeat (first | exact Pick.nil | exact rfl | apply Pick.cons)); done) | fail) (Nat.zero_le _) (by first | ((repeat (first | exact trivial | exact rfl | apply Sub.cons | exact look_int rfl (by omega) | exact look_int rfl (by simp) | exact look_int rfl (by simp; omega))); done) | fail) (fun w h => h.subl (by first | ((repeat (first | exact SubL.nil | apply SubL.keep | apply SubL.skip)); done) | fail)) ?_
  intro k hkl
  by_cases hlt : k < segs.length
  · obtain ⟨s, hs⟩ : ∃ s, segs[k]? = some s := ⟨_, List.getElem?_eq_getElem hlt⟩
    have hsR := hq.refSeg hs
    have hpl := hsR.rsegLen
    obtain ⟨A2, c2, e5, hp1, hp2, -⟩ := row_slice hsR.rsegRow.is
    have hpr := hsR.rsegRow
    rw [e5] at hpr
    have hpr' := hpr.rowV1
    have hvk : (segs.map (·.pv))[k]? = some (.slice A2 s.pgs.length c2) := by simp [hs, e5]
    obtain ⟨f1, f2⟩ := sees_get hs
    have hp4 : s.pgs.length ≤ 4 := by have := (hkx.segs s.s (List.mem_of_getElem? (rabs_seg (x := ⟨⟨_, _, _, segs⟩, _⟩) hs))).n4; omega
    (repeat (first | (refine i_dst ?_; (first | (refine i_move ?_; refine l_q rfl rfl rfl (q_move rfl) ?_) | (refine i_assign ?_; refine l_q rfl rfl rfl (q_assign rfl) ?_) | (refine i_bin ?_; refine l_q rfl rfl rfl (by (exact q_lss rfl rfl)) ?_) | (refine i_blt ?_; refine l_q rfl rfl rfl (by (exact q_len tab rfl rfl)) ?_) | (refine i_bldS ?_; refine l_bldS tab rfl rfl rfl rfl (by first | exact CellsOf.agg | exact CellsOf.one rfl) (by first | ((repeat (first | exact RepR.zero | exact AppR.nil | apply RepR.succ | apply AppR.cons)); done) | fail) (by first | ((repeat (first | exact FillR.nil | exact LSets.nil | exact LSet.zero | exact CellsOf.agg | exact rfl | exact CellsOf.one rfl | apply FillR.cons | apply LSets.cons | apply LSet.succ)); done) | fail) (fun w => by kernel_rfl) (fun _ => ?_)))) | refine d_seq ?_ | refine c_region ?_ | refine l_nil ?_ | refine c_block ?_ | (refine i_q ?_; (refine d_then ?_)) | refine c_skip ?_ | (refine i_cond ?_; (refine c_ct rfl (by (exact decide_eq_true (by omega))) ?_))))
    rename_i g7
    refine d_loop (T := Nat) [0, 1, 7, 39, 40, 43, 44] (fun j => [(45, .int .i64 j)]) [] (fun _ => [blk g7 [.int .u8 1, .int .u8 2] 5]) (fun j => j ≤ 2) (fun j => 2 - j) 0 (by first | ((repeat (first | exact Pick.nil | exact rfl | apply Pick.cons)); done) | fail) (Nat.zero_le _) (by first | ((repeat (first | exact trivial | exact rfl | apply Sub.cons | exact look_int rfl (by omega) | exact look_int rfl (by simp) | exact look_int rfl (by simp; omega))); done) | fail) (fun w h => h) ?_
    intro j hj
    by_cases hjl : j < 2
    · obtain ⟨who, hwho⟩ : ∃ who, who = j + 1 := ⟨_, rfl⟩
      have hw12 : who = 1 ∨ who = 2 := by omega
      have hwc : ([.int .u8 1, .int .u8 2] : List Value)[0 + ((j : Nat) : Int).toNat]? = some (.int .u8 (who : Int)) := by
        rw [Int.toNat_natCast, Nat.zero_add, hwho]
        rcases (by omega : j = 0 ∨ j = 1) with rfl | rfl <;> rfl
      obtain ⟨i, v, l, hi, hv, hl, _, e6, hl2⟩ := see_is (x := ⟨⟨_, _, _, segs⟩, _⟩) (who := who) hkx hs hpl
      have hse : (sees segs)[k * 2 + (((who : Nat) : Int) - 1).toNat]? = some (.int .i64 (i : Int)) := by
        rw [hi]
        rcases hw12 with rfl | rfl
        · exact f1
        · exact f2
      have hpg := hsR.rsegPage hv hl
      obtain ⟨B, cb, rfl, hb1, hb2, -⟩ := bytesA_ro hpg.is
      have hpb := hpg.bytes
      have hil : i < s.pgs.length := (List.getElem?_eq_some_iff.1 hv).1
      have hrd2 : readM m.abs who (k + 1) 0 l.length = (l, 0) := by rw [← he]; exact read_all hw12 e6 rfl
      clear f1 f2
      (repeat (first | (refine i_dst ?_; (first | (refine i_move ?_; refine l_q rfl rfl rfl (q_move rfl) ?_) | (refine i_assign ?_; refine l_q rfl rfl rfl (q_assign rfl) ?_) | (refine i_load ?_; refine l_q rfl rfl rfl (by (first | exact q_ldRo tab rfl rfl rfl (by assumption) rfl | (exact q_ld1 tab rfl rfl rfl (by first | ((repeat (first | exact List.Mem.head _ | apply List.Mem.tail)); done) | fail) (by (assumption))) | exact q_ldS tab rfl rfl rfl (by (exact fun w h => roV_src (h.ro (by assumption)))) (by (assumption)))) ?_) | (refine i_bin ?_; refine l_q rfl rfl rfl (by (first | exact q_lss rfl rfl | exact q_add rfl rfl (by (first | exact wr_i64 (by omega) | rfl)) | exact q_sub rfl rfl (by (exact wr_u8 (by omega))))) ?_) | (refine i_blt ?_; refine l_q rfl rfl rfl (by (exact q_len tab rfl rfl)) ?_) | (refine i_ix ?_; refine l_q rfl rfl rfl (by (first | exact q_indexAddr1 tab rfl rfl rfl rfl (by omega) | exact q_ixS1 tab rfl rfl rfl rfl (by (exact fun w h => roV_src (h.ro (by assumption)))) (by first | (with_reducible exact Int.toNat_natCast _) | (with_reducible exact Int.toNat_zero) | (with_reducible exact Int.toNat_one) | rfl) (by (omega)) (by (omega)) | exact q_ixSN tab rfl rfl rfl rfl (by (exact fun w h => roV_src (h.ro (by assumption)))) (by first | (with_reducible exact Int.toNat_natCast _) | (with_reducible exact Int.toNat_zero) | (with_reducible exact Int.toNat_one) | rfl) (by (omega)) (by (omega)))) ?_) | (refine l_q rfl rfl rfl (by (first | (apply iq_fld; (exact q_fieldAddr tab rfl rfl rfl rfl rfl rfl rfl)) | (apply iq_nck; (exact q_nilck rfl)) | (apply iq_cv; (exact q_conv tab rfl rfl rfl (by (exact wr_u8 (by omega))))))) ?_))) | refine d_seq ?_ | refine c_region ?_ | refine l_nil ?_ | refine c_block ?_ | (refine i_q ?_; (refine d_then ?_)) | refine c_skip ?_ | (refine i_cond ?_; (refine c_ct rfl (by (exact decide_eq_true (by omega))) ?_)) | (refine i_dst ?_; refine i_ix ?_; refine l_q rfl rfl rfl (by (exact q_ixAS1 tab rfl rfl rfl rfl (by (exact fun w h => roV_src (h.ro (by assumption)))) (by first | (with_reducible exact Int.toNat_natCast _) | (with_reducible exact Int.toNat_zero) | (with_reducible exact Int.toNat_one) | rfl) (by (omega)) (by (omega)))) ?_)))
      (refine l_call0 rfl rfl Try.func19 rfl (by decide) (fun w' h => read_spec (m := m) (roOf0 h hm) hk who (k + 1) 0 l.length (by omega) (by omega) (by omega) (by omega) (by omega)) (fun v B hv => ?_); obtain ⟨A5, c5, rfl, rfl⟩ := hv)
      rw [hrd2]
      dsimp only
      (repeat (first | (refine i_dst ?_; (first | (refine i_move ?_; refine l_q rfl rfl rfl (q_move rfl) ?_) | (refine i_assign ?_; refine l_q rfl rfl rfl (q_assign rfl) ?_) | refine l_q rfl rfl rfl (by (exact q_extract rfl rfl)) ?_)) | refine d_seq ?_ | refine l_nil ?_ | (refine i_q ?_; (refine d_then ?_))))
      (refine a_begin mixed _ 18 rfl (fun w h => h) ?_)
      ((refine a_q 0 rfl rfl rfl rfl rfl (by decide +kernel) (q_move rfl) ?_; refine a_q 1 rfl rfl rfl rfl rfl (by decide +kernel) (by (exact q_neq rfl rfl)) ?_; refine a_q 2 rfl rfl rfl rfl rfl (by decide +kernel) (q_move rfl) ?_; (refine a_gt 3 rfl rfl rfl rfl rfl rfl rfl (by decide +kernel) (q_move rfl) ?_); ((refine a_gt 4 rfl rfl rfl rfl rfl rfl rfl (by decide +kernel) (by ((apply iq_cv; ((exact q_str tab rfl rfl rfl rfl (fun w h => roB_of (h.mem (by first | ((repeat (first | exact List.Mem.head _ | apply List.Mem.tail)); done) | fail)))))))) ?_)); (refine a_gt 5 rfl rfl rfl rfl rfl rfl rfl (by decide +kernel) (q_move rfl) ?_); ((refine a_gt 6 rfl rfl rfl rfl rfl rfl rfl (by decide +kernel) (by ((apply iq_nck; (exact q_nilck rfl)))) ?_)); ((refine a_gt 7 rfl rfl rfl rfl rfl rfl rfl (by decide +kernel) (by ((apply iq_fld; (exact q_fieldAddr tab rfl rfl rfl rfl rfl rfl rfl)))) ?_)); (refine a_gt 8 rfl rfl rfl rfl rfl rfl rfl (by decide +kernel) (by (exact q_ldRo tab rfl rfl rfl (by assumption) rfl)) ?_); (refine a_gt 9 rfl rfl rfl rfl rfl rfl rfl (by decide +kernel) (q_move rfl) ?_); (refine a_gt 10 rfl rfl rfl rfl rfl rfl rfl (by decide +kernel) (by (exact q_ixS1 tab rfl rfl rfl rfl (by (exact fun w h => roV_src (h.ro (by assumption)))) (by first | (with_reducible exact Int.toNat_natCast _) | (with_reducible exact Int.toNat_zero) | (with_reducible exact Int.toNat_one) | rfl) (by (omega)) (by (omega)))) ?_); (refine a_gt 11 rfl rfl rfl rfl rfl rfl rfl (by decide +kernel) (by (exact q_ldS tab rfl rfl rfl (by (exact fun w h => roV_src (h.ro (by assumption)))) (by (assumption)))) ?_); (refine a_gt 12 rfl rfl rfl rfl rfl rfl rfl (by decide +kernel) (q_move rfl) ?_); (refine a_gt 13 rfl rfl rfl rfl rfl rfl rfl (by decide +kernel) (by (exact q_ixS1 tab rfl rfl rfl rfl (by (exact fun w h => roV_src (h.ro (by assumption)))) (by first | (with_reducible exact Int.toNat_natCast _) | (with_reducible exact Int.toNat_zero) | (with_reducible exact Int.toNat_one) | rfl) (by (omega)) (by (omega)))) ?_); (refine a_gt 14 rfl rfl rfl rfl rfl rfl rfl (by decide +kernel) (by (exact q_ldS tab rfl rfl rfl (by (exact fun w h => roV_src (h.ro (by assumption)))) (by (assumption)))) ?_); ((refine a_gt 15 rfl rfl rfl rfl rfl rfl rfl (by decide +kernel) (by ((apply iq_cv; (exact q_str tab rfl rfl rfl rfl (fun w h => h.ro (by assumption)))))) ?_)); (refine a_gt 16 rfl rfl rfl rfl rfl rfl rfl (by decide +kernel) (by (exact q_nes rfl rfl)) ?_); refine a_q 17 rfl rfl rfl rfl rfl (by decide +kernel) (by (exact q_pick_f rfl rfl)) ?_))
      refine a_done (by decide +kernel) ?_
      (repeat (first | (refine i_dst ?_; (first | (refine i_move ?_; refine l_q rfl rfl rfl (q_move rfl) ?_) | (refine i_bin ?_; refine l_q rfl rfl rfl (by (exact q_add rfl rfl (by (exact wr_i64 (by omega))))) ?_))) | refine c_region ?_ | refine l_nil ?_ | (refine i_q ?_; (first | refine d_then ?_ | refine t_then ?_ | refine t_block ?_)) | refine c_skip ?_ | (refine i_cond ?_; ((refine c_cf rfl (by (((first | (simp; done) | fail)))) ?_)))))
      exact k_again (j + 1) (by omega) (by omega) (by first | ((repeat (first | exact trivial | exact rfl | apply Sub.cons | exact look_int rfl (by omega) | exact look_int rfl (by simp) | exact look_int rfl (by simp; omega))); done) | fail) (fun w h => h.subl (by first | ((repeat (first | exact SubL.nil | apply SubL.keep | apply SubL.skip)); done) | fail))
    · (repeat (first | (refine i_dst ?_; (first | (refine i_move ?_; refine l_q rfl rfl rfl (q_move rfl) ?_) | (refine i_bin ?_; refine l_q rfl rfl rfl (by (first | exact q_lss rfl rfl | exact q_add rfl rfl (by (exact wr_i64 (by omega))))) ?_))) | refine d_seq ?_ | refine c_region ?_ | refine l_nil ?_ | (refine i_q ?_; (first | refine d_then ?_ | refine t_then ?_ | refine d_then_exit ?_ | refine t_then_exit ?_ | refine t_block ?_ | refine t_block_eq rfl ?_)) | refine c_exit ?_ | (refine i_cond ?_; (refine c_cf rfl (by (exact decide_eq_false (by omega))) ?_))))
      exact k_again (k + 1) (by omega) (by omega) (by first | ((repeat (first | exact trivial | exact rfl | apply Sub.cons | exact look_int rfl (by omega) | exact look_int rfl (by simp) | exact look_int rfl (by simp; omega))); done) | fail) (fun w h => h.subl (by first | ((repeat (first | exact SubL.nil | apply SubL.keep | apply SubL.skip)); done) | fail))
  · (repeat (first | (refine i_dst ?_; (first | (refine i_assign ?_; refine l_q rfl rfl rfl (q_assign rfl) ?_) | (refine i_bin ?_; refine l_q rfl rfl rfl (by (exact q_lss rfl rfl)) ?_))) | refine d_seq ?_ | refine c_region ?_ | refine l_nil ?_ | (refine i_q ?_; (first | refine d_then ?_ | refine d_then_exit ?_ | refine t_then_exit ?_ | refine t_block_eq rfl ?_)) | refine c_exit ?_ | refine c_ret ?_ | (refine i_cond ?_; (refine c_cf rfl (by (exact decide_eq_false (by omega))) ?_))))
    exact t_ret1 Try.results36 rfl ⟨rfl, rfl⟩
end Go.Proofs.Ytkeekkdaielipaa

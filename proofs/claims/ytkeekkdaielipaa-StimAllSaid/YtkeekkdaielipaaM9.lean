/-
  Layer 8: Clone, walked.
-/
import Derived.Test.YtkeekkdaielipaaI1
set_option linter.unusedVariables false
set_option maxRecDepth 100000
namespace Go.Proofs.Ytkeekkdaielipaa
open Go.RowKit
attribute [local irreducible] TL TC TQ TK TO Qt TA
attribute [local irreducible] blk row bytesA starL memA segA roB
set_option maxHeartbeats 4000000 in
theorem mclone_spec {p : Nat} {m : MemV} {w : World} (hm : Ro (fps []) w (memA p m)) (hk : MmOk m.abs) :
    Calls Try.prog 25 #[.pointer (some ⟨p, 0, none⟩)] w (Ret w [] fun v B => ∃ p' m', v = .pointer (some ⟨p', 0, none⟩) ∧ B = [memA p' m'] ∧ m'.abs = m.abs) := by
  obtain ⟨rv, ram, sv, segs⟩ := m
  refine enter (vs := [.pointer (some ⟨p, 0, none⟩)]) Try.func25 rfl Try.ntmps25 rfl (Hold.nil w) ?_
  obtain ⟨A, c, e1, hc1, hc2, _⟩ := row_slice (memA_row hm.is)
  obtain ⟨B, d, e2, hd1, hd2, _⟩ := row_slice (bytesA_row (memA_ram hm.is))
  dsimp only at e1 e2
  subst e1 e2
  have hb := hm.memBlk
  have hrow := hm.memRow.rowV1
  have hram := hm.memRam.bytes
  have hrl : ram.length ≤ 1024 := hk.ram
  have hn4 : segs.length ≤ 4 := by simpa [MemV.abs] using hk.n4
  dsimp only at hb hrow hram
  have hmx : maxLen = 2 ^ 63 - 1 := rfl
  (repeat (first | (refine i_dst ?_; (first | (refine i_move ?_; refine l_q rfl rfl rfl (q_move rfl) ?_) | (refine i_assign ?_; refine l_q rfl rfl rfl (q_assign rfl) ?_) | (refine i_load ?_; refine l_q rfl rfl rfl (by (exact q_ldRo tab rfl rfl rfl (by assumption) rfl)) ?_) | (refine i_bin ?_; refine l_q rfl rfl rfl (by (exact q_eqnil tab rfl rfl rfl)) ?_) | (refine l_q rfl rfl rfl (by (first | (apply iq_fld; (exact q_fieldAddr tab rfl rfl rfl rfl rfl rfl rfl)) | (apply iq_nck; (exact q_nilck rfl)))) ?_))) | refine d_seq ?_ | refine c_region ?_ | refine l_nil ?_ | (refine i_q ?_; (refine d_then ?_)) | refine c_skip ?_ | (refine i_cond ?_; (refine c_cf rfl (by (rfl)) ?_))))
  (refine l_call0 rfl rfl Try.func48 rfl (by decide) (fun w' h => clone_spec _ _ _ _ w' (roOf0 h hram) (by omega)) (fun v B hv => ?_); obtain ⟨A', c', rfl, rfl⟩ := hv)
  (repeat (first | (refine i_dst ?_; (first | (refine i_move ?_; refine l_q rfl rfl rfl (q_move rfl) ?_) | (refine i_assign ?_; refine l_q rfl rfl rfl (q_assign rfl) ?_) | (refine i_load ?_; refine l_q rfl rfl rfl (by (exact q_ldRo tab rfl rfl rfl (by assumption) rfl)) ?_) | (refine i_blt ?_; refine l_q rfl rfl rfl (by (exact q_len tab rfl rfl)) ?_) | (refine i_box ?_; (refine l_boxA rfl rfl (fun _ => ?_))) | (refine l_q rfl rfl rfl (by (first | (apply iq_fld; (exact q_fieldAddr tab rfl rfl rfl rfl rfl rfl rfl)) | (apply iq_nck; (exact q_nilck rfl)) | (apply iq_bld; ((exact q_bld tab rfl rfl rfl (by first | ((repeat (first | exact FillR.nil | exact LSets.nil | exact LSet.zero | exact CellsOf.agg | exact rfl | exact CellsOf.one rfl | apply FillR.cons | apply LSets.cons | apply LSet.succ)); done) | fail) (fun w => by kernel_rfl)))))) ?_))) | refine d_seq ?_ | refine c_region ?_ | refine l_nil ?_ | refine c_block ?_ | (refine i_q ?_; (refine d_then ?_))))
  rename_i q
  refine d_loop (T := Value × List SegV) [3, 21, 22] (fun t => [(23, .int .i64 t.2.length)]) [bytesA (.slice A' ram.length c') ram]
    (fun t => [blk q [.slice A' ram.length c', t.1] 109, row 110 1 t.1 t.2.length (t.2.map fun s => .pointer (some ⟨s.b, 0, none⟩)), starL (t.2.map segA)])
    (fun t => t.2.length ≤ segs.length ∧ t.2.map (·.s) = (segs.map (·.s)).take t.2.length) (fun t => segs.length - t.2.length) (.slice none 0 0, []) (by first | ((repeat (first | exact Pick.nil | exact rfl | apply Pick.cons)); done) | fail) ⟨Nat.zero_le _, rfl⟩ ⟨rfl, trivial⟩ (fun w h => (st_nil (st_star0 h) 110 1).pick [2, 0, 1, 3] rfl) ?_
  rintro ⟨sv', segs'⟩ ⟨hk1, hk2⟩
  dsimp only at hk1 hk2 ⊢
  by_cases hlt : segs'.length < segs.length
  · obtain ⟨⟨sb, pv, pgs, sd⟩, hsk⟩ : ∃ s, segs[segs'.length]? = some s := ⟨_, List.getElem?_eq_getElem hlt⟩
    have hvk : (segs.map fun s => Value.pointer (some ⟨s.b, 0, none⟩))[segs'.length]? = some (.pointer (some ⟨sb, 0, none⟩)) := by simp [hsk]
    have hsR := hm.memSeg hsk
    have hsok := hk.segs sd (List.mem_of_getElem? (i := segs'.length) (by simp [MemV.abs, hsk]))
    obtain ⟨A2, c2, e2, hp1, hp2, _⟩ := row_slice hsR.segRow.is
    dsimp only at e2
    subst e2
    have hsb := hsR.segBlk
    have hsr := hsR.segRow.rowV1
    have hsl := segA_len hsR.is
    dsimp only at hsb hsr hsl
    have hn5 := hsok.n4
    (repeat (first | (refine i_dst ?_; (first | (refine i_move ?_; refine l_q rfl rfl rfl (q_move rfl) ?_) | (refine i_assign ?_; refine l_q rfl rfl rfl (q_assign rfl) ?_) | (refine i_load ?_; refine l_q rfl rfl rfl (by (first | exact q_ldRo tab rfl rfl rfl (by assumption) rfl | (exact q_ldRoN tab rfl rfl rfl rfl (by assumption) (by first | ((repeat (first | exact TakeR.nil | apply TakeR.cons | apply CutR.zero | apply CutR.skip)); done) | fail)) | exact q_ldS tab rfl rfl rfl (by (exact fun w h => roV_src (h.ro (by assumption)))) (by (assumption)))) ?_) | (refine i_bin ?_; refine l_q rfl rfl rfl (by (exact q_lss rfl rfl)) ?_) | (refine i_blt ?_; refine l_q rfl rfl rfl (by (exact q_len tab rfl rfl)) ?_) | (refine i_ix ?_; refine l_q rfl rfl rfl (by (exact q_ixS1 tab rfl rfl rfl rfl (by (exact fun w h => roV_src (h.ro (by assumption)))) (by first | (with_reducible exact Int.toNat_natCast _) | (with_reducible exact Int.toNat_zero) | (with_reducible exact Int.toNat_one) | rfl) (by (omega)) (by (omega)))) ?_) | (refine i_box ?_; (refine l_boxA rfl rfl (fun _ => ?_))) | (refine l_q rfl rfl rfl (by (first | (apply iq_fld; (exact q_fieldAddr tab rfl rfl rfl rfl rfl rfl rfl)) | (apply iq_nck; (exact q_nilck rfl)) | (apply iq_bld; ((exact q_bld tab rfl rfl rfl (by first | ((repeat (first | exact FillR.nil | exact LSets.nil | exact LSet.zero | exact CellsOf.agg | exact rfl | exact CellsOf.one rfl | apply FillR.cons | apply LSets.cons | apply LSet.succ)); done) | fail) (fun w => by kernel_rfl)))))) ?_))) | refine d_seq ?_ | refine c_region ?_ | refine l_nil ?_ | refine c_block ?_ | (refine i_q ?_; (refine d_then ?_)) | refine c_skip ?_ | (refine i_cond ?_; (refine c_ct rfl (by (exact decide_eq_true (by omega))) ?_))))
    rename_i b6
    refine d_loop (T := Value × List Value) [3, 6, 21, 22, 23, 36, 37] (fun t => [(38, .int .i64 t.2.length)]) [blk q [.slice A' ram.length c', sv'] 109, row 110 1 sv' segs'.length (segs'.map fun s => .pointer (some ⟨s.b, 0, none⟩)), starL (segs'.map segA), bytesA (.slice A' ram.length c') ram]
      (fun t => [blk b6 [t.1, .int .i64 sd.s0, .int .i64 sd.s1] 112, row 23 1 t.1 t.2.length t.2, starL (List.zipWith bytesA t.2 (sd.dat.take t.2.length))])
      (fun t => t.2.length ≤ pgs.length) (fun t => pgs.length - t.2.length) (.slice none 0 0, []) (by first | ((repeat (first | exact Pick.nil | exact rfl | apply Pick.cons)); done) | fail) (Nat.zero_le _) ⟨rfl, trivial⟩ (fun w h => (st_nil (st_star0 h) 23 1).pick [2, 0, 1, 3, 4, 5, 6] rfl) ?_
    rintro ⟨pv', pgs'⟩ hj
    dsimp only at hj ⊢
    by_cases hjl : pgs'.length < pgs.length
    · obtain ⟨v, hv⟩ : ∃ v, pgs[pgs'.length]? = some v := ⟨_, List.getElem?_eq_getElem hjl⟩
      obtain ⟨l, hl⟩ : ∃ l, sd.dat[pgs'.length]? = some l := ⟨_, List.getElem?_eq_getElem (by omega)⟩
      have hpg := hsR.segPage hv hl
      obtain ⟨B3, c3, rfl, hq1, hq2, _⟩ := bytesA_ro hpg.is
      have hpb := hpg.bytes
      have hll : l.length ≤ 256 := by rw [hsok.len l (List.mem_of_getElem? hl)]; exact hsok.l2
      refine c_fact (p := ∃ A4 c4, pv' = .slice A4 pgs'.length c4) (fun w h => ?_) ?_
      · obtain ⟨A4, c4, e4, _⟩ := row_slice (h.get (i := 1) rfl)
        exact ⟨A4, c4, e4⟩
      rintro ⟨A4, c4, rfl⟩
      (repeat (first | (refine i_dst ?_; (first | (refine i_assign ?_; refine l_q rfl rfl rfl (q_assign rfl) ?_) | (refine i_load ?_; refine l_q rfl rfl rfl (by (exact q_ldS tab rfl rfl rfl (by (exact fun w h => roV_src (h.ro (by assumption)))) (by (assumption)))) ?_) | (refine i_bin ?_; refine l_q rfl rfl rfl (by (exact q_lss rfl rfl)) ?_) | (refine i_ix ?_; refine l_q rfl rfl rfl (by (exact q_ixS1 tab rfl rfl rfl rfl (by (exact fun w h => roV_src (h.ro (by assumption)))) (by first | (with_reducible exact Int.toNat_natCast _) | (with_reducible exact Int.toNat_zero) | (with_reducible exact Int.toNat_one) | rfl) (by (omega)) (by (omega)))) ?_))) | refine d_seq ?_ | refine c_region ?_ | refine l_nil ?_ | refine c_block ?_ | (refine i_q ?_; (refine d_then ?_)) | refine c_skip ?_ | (refine i_cond ?_; (refine c_ct rfl (by (exact decide_eq_true (by omega))) ?_))))
      (refine a_beginE mixed [blk b6 [.slice A4 pgs'.length c4, .int .i64 sd.s0, .int .i64 sd.s1] 112] [] 12 11 rfl (fun w h => h.subl (by first | ((repeat (first | exact SubL.nil | apply SubL.keep | apply SubL.skip)); done) | fail)) (fun w h => h.subl (by first | ((repeat (first | exact SubL.nil | apply SubL.keep | apply SubL.skip)); done) | fail)) ?_)
      ((refine a_q 0 rfl rfl rfl rfl rfl (by decide +kernel) (q_move rfl) ?_; refine a_q 1 rfl rfl rfl rfl rfl (by decide +kernel) (q_move rfl) ?_; refine a_q 2 rfl rfl rfl rfl rfl (by decide +kernel) (by ((apply iq_nck; (exact q_nilck rfl)))) ?_; refine a_q 3 rfl rfl rfl rfl rfl (by decide +kernel) (by ((apply iq_fld; (exact q_fieldAddr tab rfl rfl rfl rfl rfl rfl rfl)))) ?_; ((refine a_y 4 rfl rfl rfl rfl rfl (by decide +kernel) (by ((exact q_ld1 tab rfl rfl rfl (by first | ((repeat (first | exact List.Mem.head _ | apply List.Mem.tail)); done) | fail) (by (rfl))))) ?_)); refine a_q 5 rfl rfl rfl rfl rfl (by decide +kernel) (q_move rfl) ?_))
      (refine a_e 6 rfl (by decide +kernel) rfl (fun K hK => e_call0 rfl rfl Try.func48 rfl (by decide) (fun w' h => clone_spec _ _ _ _ w' (roOf0 h hpb) (by omega)) (fun v B hv => ?_)); obtain ⟨A5, c5, rfl, rfl⟩ := hv; refine hK _ _ (fun w h => h.subl (by first | ((repeat (first | exact SubL.nil | apply SubL.keep | apply SubL.skip)); done) | fail)) ?_; clear hK)
      (skip)
      (refine a_e 7 rfl (by decide +kernel) rfl (fun K hK => e_bldS tab rfl rfl rfl rfl (by first | exact CellsOf.agg | exact CellsOf.one rfl) (by first | ((repeat (first | exact RepR.zero | exact AppR.nil | apply RepR.succ | apply AppR.cons)); done) | fail) (by first | ((repeat (first | exact FillR.nil | exact LSets.nil | exact LSet.zero | exact CellsOf.agg | exact rfl | exact CellsOf.one rfl | apply FillR.cons | apply LSets.cons | apply LSet.succ)); done) | fail) (fun w => by kernel_rfl) (fun g7 => hK _ _ (fun w h => h.subl (by first | ((repeat (first | exact SubL.nil | apply SubL.keep | apply SubL.skip)); done) | fail)) ?_)); clear hK)
      (skip)
      (refine a_e 8 rfl (by decide +kernel) rfl (fun K hK => e_app tab rfl rfl rfl rowBB (by first | ((repeat (first | exact Ext.head | apply Ext.tail)); done) | fail) (news := [.slice A5 l.length c5]) (fun w h => SrcAt.blk (h.mem (by first | ((repeat (first | exact List.Mem.head _ | apply List.Mem.tail)); done) | fail)) rfl) (by simp [Value.oneCell']) (by omega) (by omega) (fun A6 c6 hA1 hA2 => hK _ _ (fun w h => h.subl (by first | ((repeat (first | exact SubL.nil | apply SubL.keep | apply SubL.skip)); done) | fail)) ?_)); clear hK)
      ((refine a_q 9 rfl rfl rfl rfl rfl (by decide +kernel) (by ((apply iq_nck; (exact q_nilck rfl)))) ?_; refine a_q 10 rfl rfl rfl rfl rfl (by decide +kernel) (by ((apply iq_fld; (exact q_fieldAddr tab rfl rfl rfl rfl rfl rfl rfl)))) ?_))
      (refine a_e 11 rfl (by decide +kernel) rfl (fun K hK => e_set tab rfl rfl rfl rfl (by first | ((repeat (first | exact Upd.head | apply Upd.tail)); done) | fail) (by first | ((repeat (first | exact LSet.zero | apply LSet.succ)); done) | fail) (hK _ _ (fun w h => h.subl (by first | ((repeat (first | exact SubL.nil | apply SubL.keep | apply SubL.skip)); done) | fail)) ?_)); clear hK)
      refine a_done (by decide +kernel) ?_
      (repeat (first | (refine i_dst ?_; (first | (refine i_move ?_; refine l_q rfl rfl rfl (q_move rfl) ?_) | (refine i_bin ?_; refine l_q rfl rfl rfl (by (exact q_add rfl rfl (by (exact wr_i64 (by omega))))) ?_))) | refine c_region ?_ | refine l_nil ?_ | (refine i_q ?_; (first | refine d_then ?_ | refine t_then ?_ | refine t_block ?_))))
      refine k_again (.slice A6 (pgs'.length + 1) c6, pgs' ++ [.slice A5 l.length c5]) (by simp; omega) (by simp; omega) (by first | ((repeat (first | exact trivial | exact rfl | apply Sub.cons | exact look_int rfl (by omega) | exact look_int rfl (by simp) | exact look_int rfl (by simp; omega))); done) | fail) (fun w h => ?_)
      have h1 := st_starS (by simp; omega) (h.pick [2, 4, 3, 0, 5, 6, 7, 8] rfl)
      dsimp only
      rw [List.length_append, List.length_singleton, List.take_add_one, hl]
      exact h1.pick [1, 2, 0, 3, 4, 5, 6] rfl
    · have hjn : pgs'.length = pgs.length := by omega
      refine c_fact (p := ∃ A4 c4, sv' = .slice A4 segs'.length c4) (fun w h => ?_) ?_
      · obtain ⟨A4, c4, e4, _⟩ := row_slice (h.get (i := 4) rfl)
        exact ⟨A4, c4, e4⟩
      rintro ⟨A4, c4, rfl⟩
      (repeat (first | (refine i_dst ?_; (first | (refine i_move ?_; refine l_q rfl rfl rfl (q_move rfl) ?_) | (refine i_load ?_; refine l_q rfl rfl rfl (by ((exact q_ld1 tab rfl rfl rfl (by first | ((repeat (first | exact List.Mem.head _ | apply List.Mem.tail)); done) | fail) (by (rfl))))) ?_) | (refine i_bin ?_; refine l_q rfl rfl rfl (by (exact q_lss rfl rfl)) ?_) | (refine i_bldS ?_; refine l_bldS tab rfl rfl rfl rfl (by first | exact CellsOf.agg | exact CellsOf.one rfl) (by first | ((repeat (first | exact RepR.zero | exact AppR.nil | apply RepR.succ | apply AppR.cons)); done) | fail) (by first | ((repeat (first | exact FillR.nil | exact LSets.nil | exact LSet.zero | exact CellsOf.agg | exact rfl | exact CellsOf.one rfl | apply FillR.cons | apply LSets.cons | apply LSet.succ)); done) | fail) (fun w => by kernel_rfl) (fun _ => ?_)) | (refine l_q rfl rfl rfl (by (first | (apply iq_fld; (exact q_fieldAddr tab rfl rfl rfl rfl rfl rfl rfl)) | (apply iq_nck; (exact q_nilck rfl)))) ?_))) | refine d_seq ?_ | refine c_region ?_ | refine l_nil ?_ | (refine i_q ?_; (first | refine d_then ?_ | refine d_then_exit ?_ | refine t_then_exit ?_ | refine t_block_eq rfl ?_)) | refine c_exit ?_ | (refine i_cond ?_; (refine c_cf rfl (by (exact decide_eq_false (by omega))) ?_))))
      (refine l_app tab rfl rfl rfl rowPS (by first | ((repeat (first | exact Ext.head | apply Ext.tail)); done) | fail) (news := [.pointer (some ⟨b6, 0, none⟩)]) (fun w h => SrcAt.blk (h.mem (by first | ((repeat (first | exact List.Mem.head _ | apply List.Mem.tail)); done) | fail)) rfl) (by simp [Value.oneCell']) (by omega) (by omega) (fun A6 c6 hA1 hA2 => ?_))
      (repeat (first | (refine i_dst ?_; (first | (refine i_move ?_; refine l_q rfl rfl rfl (q_move rfl) ?_) | (refine i_bin ?_; refine l_q rfl rfl rfl (by (exact q_add rfl rfl (by (exact wr_i64 (by omega))))) ?_) | (refine l_q rfl rfl rfl (by (first | (apply iq_fld; (exact q_fieldAddr tab rfl rfl rfl rfl rfl rfl rfl)) | (apply iq_nck; (exact q_nilck rfl)))) ?_))) | refine c_region ?_ | refine l_nil ?_ | (refine i_q ?_; (first | refine d_then ?_ | refine t_then ?_ | refine t_block ?_)) | (refine i_store ?_; ((refine l_set tab rfl rfl rfl rfl (by first | ((repeat (first | exact Upd.head | apply Upd.tail)); done) | fail) (by first | ((repeat (first | exact LSet.zero | apply LSet.succ)); done) | fail) ?_)))))
      refine k_again (.slice A6 (segs'.length + 1) c6, segs' ++ [⟨b6, pv', pgs', sd⟩]) ⟨by simp; omega, ?_⟩ (by simp; omega) (by first | ((repeat (first | exact trivial | exact rfl | apply Sub.cons | exact look_int rfl (by omega) | exact look_int rfl (by simp) | exact look_int rfl (by simp; omega))); done) | fail) (fun w h => ?_)
      · dsimp only
        rw [List.map_append, hk2, List.length_append, List.length_singleton, List.take_add_one, List.getElem?_map, hsk]
        rfl
      rw [List.take_of_length_le (by omega)] at h
      have h1 := segA_mk (s := ⟨b6, pv', pgs', sd⟩) ((st_pure (p := pgs'.length = sd.dat.length) (by omega) (h.pick [2, 3, 4, 0, 5, 6, 7] rfl)).pick [1, 2, 0, 3, 4, 5, 6, 7] rfl)
      have h2 := st_snoc (h1.pick [0, 3, 1, 2, 4] rfl)
      dsimp only
      rw [List.length_append, List.length_singleton, List.map_append, List.map_append]
      exact h2.pick [2, 1, 0, 3] rfl
  · have hkn : segs'.length = segs.length := by omega
    (repeat (first | (refine i_dst ?_; (first | (refine i_move ?_; refine l_q rfl rfl rfl (q_move rfl) ?_) | (refine i_assign ?_; refine l_q rfl rfl rfl (q_assign rfl) ?_) | (refine i_bin ?_; refine l_q rfl rfl rfl (by (exact q_lss rfl rfl)) ?_))) | refine d_seq ?_ | refine c_region ?_ | refine l_nil ?_ | (refine i_q ?_; (first | refine d_then ?_ | refine d_then_exit ?_ | refine t_then_exit ?_ | refine t_block_eq rfl ?_)) | refine c_exit ?_ | refine c_ret ?_ | (refine i_cond ?_; (refine c_cf rfl (by (exact decide_eq_false (by omega))) ?_))))
    refine t_hp (hp' := [memA q ⟨.slice A' ram.length c', ram, sv', segs'⟩]) (fun w h => memA_mk (h.pick [0, 3, 1, 2] rfl)) (t_ret1 Try.results25 rfl ⟨q, _, rfl, rfl, ?_⟩)
    simp only [MemV.abs]
    rw [hk2, List.take_of_length_le (by simp; omega)]
end Go.Proofs.Ytkeekkdaielipaa

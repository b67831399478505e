/-
  Part 11 of the proof of QJ: the texts M9 S6 S7 A1 F7.
-/
import Derived.Test.YtboccjdncdaakaaK07
import Derived.Test.YtboccjdncdaakaaK10
import Derived.Test.YtboccjdncdaakaaK08
import Derived.Test.YtboccjdncdaakaaK09

/-
  Layer 8: Clone, walked.
-/

set_option linter.unusedVariables false
set_option maxRecDepth 100000
namespace Go.Proofs.Ytboccjdncdaakaa
open Go.RowKit
attribute [local irreducible] TL TC TQ TK TO Qt TA
attribute [local irreducible] blk row bytesA starL memA segA roB
set_option maxHeartbeats 4000000 in
theorem mclone_spec {p : Nat} {m : MemV} {w : World} (hm : Ro (fps []) w (memA p m)) (hk : MmOk m.abs) :
    Calls Try.prog 24 #[.pointer (some ⟨p, 0, none⟩)] w (Ret w [] fun v B => ∃ p' m', v = .pointer (some ⟨p', 0, none⟩) ∧ B = [memA p' m'] ∧ m'.abs = m.abs) := by
  obtain ⟨rv, ram, sv, segs⟩ := m
  refine enter (vs := [.pointer (some ⟨p, 0, none⟩)]) Try.func24 rfl Try.ntmps24 rfl (Hold.nil w) ?_
  obtain ⟨A, c, e1, hc1, hc2, _⟩ := row_slice (memA_row hm.is)
  obtain ⟨B, d, e2, hd1, hd2, _⟩ := row_slice (bytesA_row (memA_ram hm.is))
  dsimp only at e1 e2
  subst e1 e2
  have hb := hm.memBlk
  have hrow := hm.memRow.rowV1
  have hram := hm.memRam.bytes
  have hrl : ram.length ≤ 1024 := hk.ram
  have hn4 : segs.length ≤ 4 := by simpa [MemV.abs] using hk.n4
  dsimp only at hb hrow hram
  have hmx : maxLen = 2 ^ 63 - 1 := rfl
  (repeat (first | (refine i_dst ?_; (first | (refine i_move ?_; refine l_q rfl rfl rfl (q_move rfl) ?_) | (refine i_assign ?_; refine l_q rfl rfl rfl (q_assign rfl) ?_) | (refine i_load ?_; refine l_q rfl rfl rfl (by (exact q_ldRo tab rfl rfl rfl (by assumption) rfl)) ?_) | (refine i_bin ?_; refine l_q rfl rfl rfl (by (exact q_eqnil tab rfl rfl rfl)) ?_) | (refine l_q rfl rfl rfl (by (first | (apply iq_fld; (exact q_fieldAddr tab rfl rfl rfl rfl rfl rfl rfl)) | (apply iq_nck; (exact q_nilck rfl)))) ?_))) | refine d_seq ?_ | refine c_region ?_ | refine l_nil ?_ | (refine i_q ?_; (refine d_then ?_)) | refine c_skip ?_ | (refine i_cond ?_; (refine c_cf rfl (by (rfl)) ?_))))
  (refine l_call0 rfl rfl Try.func20 rfl (by decide) (fun w' h => clone_spec _ _ _ _ w' (roOf0 h hram) (by omega)) (fun v B hv => ?_); obtain ⟨A', c', rfl, rfl⟩ := hv)
  (repeat (first | (refine i_dst ?_; (first | (refine i_move ?_; refine l_q rfl rfl rfl (q_move rfl) ?_) | (refine i_assign ?_; refine l_q rfl rfl rfl (q_assign rfl) ?_) | (refine i_load ?_; refine l_q rfl rfl rfl (by (exact q_ldRo tab rfl rfl rfl (by assumption) rfl)) ?_) | (refine i_blt ?_; refine l_q rfl rfl rfl (by (exact q_len tab rfl rfl)) ?_) | (refine i_box ?_; (refine l_boxA rfl rfl (fun _ => ?_))) | (refine l_q rfl rfl rfl (by (first | (apply iq_fld; (exact q_fieldAddr tab rfl rfl rfl rfl rfl rfl rfl)) | (apply iq_nck; (exact q_nilck rfl)) | (apply iq_bld; ((exact q_bld tab rfl rfl rfl (by first | ((repeat (first | exact FillR.nil | exact LSets.nil | exact LSet.zero | exact CellsOf.agg | exact rfl | exact CellsOf.one rfl | apply FillR.cons | apply LSets.cons | apply LSet.succ)); done) | fail) (fun w => by kernel_rfl)))))) ?_))) | refine d_seq ?_ | refine c_region ?_ | refine l_nil ?_ | refine c_block ?_ | (refine i_q ?_; (refine d_then ?_))))
  rename_i q
  refine d_loop (T := Value × List SegV) [3, 21, 22] (fun t => [(23, .int .i64 t.2.length)]) [bytesA (.slice A' ram.length c') ram]
    (fun t => [blk q [.slice A' ram.length c', t.1] 65, row 68 1 t.1 t.2.length (t.2.map fun s => .pointer (some ⟨s.b, 0, none⟩)), starL (t.2.map segA)])
    (fun t => t.2.length ≤ segs.length ∧ t.2.map (·.s) = (segs.map (·.s)).take t.2.length) (fun t => segs.length - t.2.length) (.slice none 0 0, []) (by first | ((repeat (first | exact Pick.nil | exact rfl | apply Pick.cons)); done) | fail) ⟨Nat.zero_le _, rfl⟩ ⟨rfl, trivial⟩ (fun w h => (st_nil (st_star0 h) 68 1).pick [2, 0, 1, 3] rfl) ?_
  rintro ⟨sv', segs'⟩ ⟨hk1, hk2⟩
  dsimp only at hk1 hk2 ⊢
  by_cases hlt : segs'.length < segs.length
  · obtain ⟨⟨sb, pv, pgs, sd⟩, hsk⟩ : ∃ s, segs[segs'.length]? = some s := ⟨_, List.getElem?_eq_getElem hlt⟩
    have hvk : (segs.map fun s => Value.pointer (some ⟨s.b, 0, none⟩))[segs'.length]? = some (.pointer (some ⟨sb, 0, none⟩)) := by simp [hsk]
    have hsR := hm.memSeg hsk
    have hsok := hk.segs sd (List.mem_of_getElem? (i := segs'.length) (by simp [MemV.abs, hsk]))
    obtain ⟨A2, c2, e2, hp1, hp2, _⟩ := row_slice hsR.segRow.is
    dsimp only at e2
    subst e2
    have hsb := hsR.segBlk
    have hsr := hsR.segRow.rowV1
    have hsl := segA_len hsR.is
    dsimp only at hsb hsr hsl
    have hn5 := hsok.n4
    (repeat (first | (refine i_dst ?_; (first | (refine i_move ?_; refine l_q rfl rfl rfl (q_move rfl) ?_) | (refine i_assign ?_; refine l_q rfl rfl rfl (q_assign rfl) ?_) | (refine i_load ?_; refine l_q rfl rfl rfl (by (first | exact q_ldRo tab rfl rfl rfl (by assumption) rfl | (exact q_ldRoN tab rfl rfl rfl rfl (by assumption) (by first | ((repeat (first | exact TakeR.nil | apply TakeR.cons | apply CutR.zero | apply CutR.skip)); done) | fail)) | exact q_ldS tab rfl rfl rfl (by (exact fun w h => roV_src (h.ro (by assumption)))) (by (assumption)))) ?_) | (refine i_bin ?_; refine l_q rfl rfl rfl (by (exact q_lss rfl rfl)) ?_) | (refine i_blt ?_; refine l_q rfl rfl rfl (by (exact q_len tab rfl rfl)) ?_) | (refine i_ix ?_; refine l_q rfl rfl rfl (by (exact q_ixS1 tab rfl rfl rfl rfl (by (exact fun w h => roV_src (h.ro (by assumption)))) (by first | (with_reducible exact Int.toNat_natCast _) | (with_reducible exact Int.toNat_zero) | (with_reducible exact Int.toNat_one) | rfl) (by (omega)) (by (omega)))) ?_) | (refine i_box ?_; (refine l_boxA rfl rfl (fun _ => ?_))) | (refine l_q rfl rfl rfl (by (first | (apply iq_fld; (exact q_fieldAddr tab rfl rfl rfl rfl rfl rfl rfl)) | (apply iq_nck; (exact q_nilck rfl)) | (apply iq_bld; ((exact q_bld tab rfl rfl rfl (by first | ((repeat (first | exact FillR.nil | exact LSets.nil | exact LSet.zero | exact CellsOf.agg | exact rfl | exact CellsOf.one rfl | apply FillR.cons | apply LSets.cons | apply LSet.succ)); done) | fail) (fun w => by kernel_rfl)))))) ?_))) | refine d_seq ?_ | refine c_region ?_ | refine l_nil ?_ | refine c_block ?_ | (refine i_q ?_; (refine d_then ?_)) | refine c_skip ?_ | (refine i_cond ?_; (refine c_ct rfl (by (exact decide_eq_true (by omega))) ?_))))
    rename_i b6
    refine d_loop (T := Value × List Value) [3, 6, 21, 22, 23, 36, 37] (fun t => [(38, .int .i64 t.2.length)]) [blk q [.slice A' ram.length c', sv'] 65, row 68 1 sv' segs'.length (segs'.map fun s => .pointer (some ⟨s.b, 0, none⟩)), starL (segs'.map segA), bytesA (.slice A' ram.length c') ram]
      (fun t => [blk b6 [t.1, .int .i64 sd.s0, .int .i64 sd.s1] 71, row 38 1 t.1 t.2.length t.2, starL (List.zipWith bytesA t.2 (sd.dat.take t.2.length))])
      (fun t => t.2.length ≤ pgs.length) (fun t => pgs.length - t.2.length) (.slice none 0 0, []) (by first | ((repeat (first | exact Pick.nil | exact rfl | apply Pick.cons)); done) | fail) (Nat.zero_le _) ⟨rfl, trivial⟩ (fun w h => (st_nil (st_star0 h) 38 1).pick [2, 0, 1, 3, 4, 5, 6] rfl) ?_
    rintro ⟨pv', pgs'⟩ hj
    dsimp only at hj ⊢
    by_cases hjl : pgs'.length < pgs.length
    · obtain ⟨v, hv⟩ : ∃ v, pgs[pgs'.length]? = some v := ⟨_, List.getElem?_eq_getElem hjl⟩
      obtain ⟨l, hl⟩ : ∃ l, sd.dat[pgs'.length]? = some l := ⟨_, List.getElem?_eq_getElem (by omega)⟩
      have hpg := hsR.segPage hv hl
      obtain ⟨B3, c3, rfl, hq1, hq2, _⟩ := bytesA_ro hpg.is
      have hpb := hpg.bytes
      have hll : l.length ≤ 256 := by rw [hsok.len l (List.mem_of_getElem? hl)]; exact hsok.l2
      refine c_fact (p := ∃ A4 c4, pv' = .slice A4 pgs'.length c4) (fun w h => ?_) ?_
      · obtain ⟨A4, c4, e4, _⟩ := row_slice (h.get (i := 1) rfl)
        exact ⟨A4, c4, e4⟩
      rintro ⟨A4, c4, rfl⟩
      (repeat (first | (refine i_dst ?_; (first | (refine i_assign ?_; refine l_q rfl rfl rfl (q_assign rfl) ?_) | (refine i_load ?_; refine l_q rfl rfl rfl (by (exact q_ldS tab rfl rfl rfl (by (exact fun w h => roV_src (h.ro (by assumption)))) (by (assumption)))) ?_) | (refine i_bin ?_; refine l_q rfl rfl rfl (by (exact q_lss rfl rfl)) ?_) | (refine i_ix ?_; refine l_q rfl rfl rfl (by (exact q_ixS1 tab rfl rfl rfl rfl (by (exact fun w h => roV_src (h.ro (by assumption)))) (by first | (with_reducible exact Int.toNat_natCast _) | (with_reducible exact Int.toNat_zero) | (with_reducible exact Int.toNat_one) | rfl) (by (omega)) (by (omega)))) ?_))) | refine d_seq ?_ | refine c_region ?_ | refine l_nil ?_ | refine c_block ?_ | (refine i_q ?_; (refine d_then ?_)) | refine c_skip ?_ | (refine i_cond ?_; (refine c_ct rfl (by (exact decide_eq_true (by omega))) ?_))))
      (refine a_beginE mixed [blk b6 [.slice A4 pgs'.length c4, .int .i64 sd.s0, .int .i64 sd.s1] 71] [] 12 11 rfl (fun w h => h.subl (by first | ((repeat (first | exact SubL.nil | apply SubL.keep | apply SubL.skip)); done) | fail)) (fun w h => h.subl (by first | ((repeat (first | exact SubL.nil | apply SubL.keep | apply SubL.skip)); done) | fail)) ?_)
      ((refine a_q 0 rfl rfl rfl rfl rfl (by decide +kernel) (q_move rfl) ?_; refine a_q 1 rfl rfl rfl rfl rfl (by decide +kernel) (q_move rfl) ?_; refine a_q 2 rfl rfl rfl rfl rfl (by decide +kernel) (by ((apply iq_nck; (exact q_nilck rfl)))) ?_; refine a_q 3 rfl rfl rfl rfl rfl (by decide +kernel) (by ((apply iq_fld; (exact q_fieldAddr tab rfl rfl rfl rfl rfl rfl rfl)))) ?_; ((refine a_y 4 rfl rfl rfl rfl rfl (by decide +kernel) (by ((exact q_ld1 tab rfl rfl rfl (by first | ((repeat (first | exact List.Mem.head _ | apply List.Mem.tail)); done) | fail) (by (rfl))))) ?_)); refine a_q 5 rfl rfl rfl rfl rfl (by decide +kernel) (q_move rfl) ?_))
      (refine a_e 6 rfl (by decide +kernel) rfl (fun K hK => e_call0 rfl rfl Try.func20 rfl (by decide) (fun w' h => clone_spec _ _ _ _ w' (roOf0 h hpb) (by omega)) (fun v B hv => ?_)); obtain ⟨A5, c5, rfl, rfl⟩ := hv; refine hK _ _ (fun w h => h.subl (by first | ((repeat (first | exact SubL.nil | apply SubL.keep | apply SubL.skip)); done) | fail)) ?_; clear hK)
      (skip)
      (refine a_e 7 rfl (by decide +kernel) rfl (fun K hK => e_bldS tab rfl rfl rfl rfl (by first | exact CellsOf.agg | exact CellsOf.one rfl) (by first | ((repeat (first | exact RepR.zero | exact AppR.nil | apply RepR.succ | apply AppR.cons)); done) | fail) (by first | ((repeat (first | exact FillR.nil | exact LSets.nil | exact LSet.zero | exact CellsOf.agg | exact rfl | exact CellsOf.one rfl | apply FillR.cons | apply LSets.cons | apply LSet.succ)); done) | fail) (fun w => by kernel_rfl) (fun g7 => hK _ _ (fun w h => h.subl (by first | ((repeat (first | exact SubL.nil | apply SubL.keep | apply SubL.skip)); done) | fail)) ?_)); clear hK)
      (skip)
      (refine a_e 8 rfl (by decide +kernel) rfl (fun K hK => e_app tab rfl rfl rfl rowBB (by first | ((repeat (first | exact Ext.head | apply Ext.tail)); done) | fail) (news := [.slice A5 l.length c5]) (fun w h => SrcAt.blk (h.mem (by first | ((repeat (first | exact List.Mem.head _ | apply List.Mem.tail)); done) | fail)) rfl) (by simp [Value.oneCell']) (by omega) (by omega) (fun A6 c6 hA1 hA2 => hK _ _ (fun w h => h.subl (by first | ((repeat (first | exact SubL.nil | apply SubL.keep | apply SubL.skip)); done) | fail)) ?_)); clear hK)
      ((refine a_q 9 rfl rfl rfl rfl rfl (by decide +kernel) (by ((apply iq_nck; (exact q_nilck rfl)))) ?_; refine a_q 10 rfl rfl rfl rfl rfl (by decide +kernel) (by ((apply iq_fld; (exact q_fieldAddr tab rfl rfl rfl rfl rfl rfl rfl)))) ?_))
      (refine a_e 11 rfl (by decide +kernel) rfl (fun K hK => e_set tab rfl rfl rfl rfl (by first | ((repeat (first | exact Upd.head | apply Upd.tail)); done) | fail) (by first | ((repeat (first | exact LSet.zero | apply LSet.succ)); done) | fail) (hK _ _ (fun w h => h.subl (by first | ((repeat (first | exact SubL.nil | apply SubL.keep | apply SubL.skip)); done) | fail)) ?_)); clear hK)
      refine a_done (by decide +kernel) ?_
      (repeat (first | (refine i_dst ?_; (first | (refine i_move ?_; refine l_q rfl rfl rfl (q_move rfl) ?_) | (refine i_bin ?_; refine l_q rfl rfl rfl (by (exact q_add rfl rfl (by (exact wr_i64 (by omega))))) ?_))) | refine c_region ?_ | refine l_nil ?_ | (refine i_q ?_; (first | refine d_then ?_ | refine t_then ?_ | refine t_block ?_))))
      refine k_again (.slice A6 (pgs'.length + 1) c6, pgs' ++ [.slice A5 l.length c5]) (by simp; omega) (by simp; omega) (by first | ((repeat (first | exact trivial | exact rfl | apply Sub.cons | exact look_int rfl (by omega) | exact look_int rfl (by simp) | exact look_int rfl (by simp; omega))); done) | fail) (fun w h => ?_)
      have h1 := st_starS (by simp; omega) (h.pick [2, 4, 3, 0, 5, 6, 7, 8] rfl)
      dsimp only
      rw [List.length_append, List.length_singleton, List.take_add_one, hl]
      exact h1.pick [1, 2, 0, 3, 4, 5, 6] rfl
    · have hjn : pgs'.length = pgs.length := by omega
      refine c_fact (p := ∃ A4 c4, sv' = .slice A4 segs'.length c4) (fun w h => ?_) ?_
      · obtain ⟨A4, c4, e4, _⟩ := row_slice (h.get (i := 4) rfl)
        exact ⟨A4, c4, e4⟩
      rintro ⟨A4, c4, rfl⟩
      (repeat (first | (refine i_dst ?_; (first | (refine i_move ?_; refine l_q rfl rfl rfl (q_move rfl) ?_) | (refine i_load ?_; refine l_q rfl rfl rfl (by ((exact q_ld1 tab rfl rfl rfl (by first | ((repeat (first | exact List.Mem.head _ | apply List.Mem.tail)); done) | fail) (by (rfl))))) ?_) | (refine i_bin ?_; refine l_q rfl rfl rfl (by (exact q_lss rfl rfl)) ?_) | (refine i_bldS ?_; refine l_bldS tab rfl rfl rfl rfl (by first | exact CellsOf.agg | exact CellsOf.one rfl) (by first | ((repeat (first | exact RepR.zero | exact AppR.nil | apply RepR.succ | apply AppR.cons)); done) | fail) (by first | ((repeat (first | exact FillR.nil | exact LSets.nil | exact LSet.zero | exact CellsOf.agg | exact rfl | exact CellsOf.one rfl | apply FillR.cons | apply LSets.cons | apply LSet.succ)); done) | fail) (fun w => by kernel_rfl) (fun _ => ?_)) | (refine l_q rfl rfl rfl (by (first | (apply iq_fld; (exact q_fieldAddr tab rfl rfl rfl rfl rfl rfl rfl)) | (apply iq_nck; (exact q_nilck rfl)))) ?_))) | refine d_seq ?_ | refine c_region ?_ | refine l_nil ?_ | (refine i_q ?_; (first | refine d_then ?_ | refine d_then_exit ?_ | refine t_then_exit ?_ | refine t_block_eq rfl ?_)) | refine c_exit ?_ | (refine i_cond ?_; (refine c_cf rfl (by (exact decide_eq_false (by omega))) ?_))))
      (refine l_app tab rfl rfl rfl rowPS (by first | ((repeat (first | exact Ext.head | apply Ext.tail)); done) | fail) (news := [.pointer (some ⟨b6, 0, none⟩)]) (fun w h => SrcAt.blk (h.mem (by first | ((repeat (first | exact List.Mem.head _ | apply List.Mem.tail)); done) | fail)) rfl) (by simp [Value.oneCell']) (by omega) (by omega) (fun A6 c6 hA1 hA2 => ?_))
      (repeat (first | (refine i_dst ?_; (first | (refine i_move ?_; refine l_q rfl rfl rfl (q_move rfl) ?_) | (refine i_bin ?_; refine l_q rfl rfl rfl (by (exact q_add rfl rfl (by (exact wr_i64 (by omega))))) ?_) | (refine l_q rfl rfl rfl (by (first | (apply iq_fld; (exact q_fieldAddr tab rfl rfl rfl rfl rfl rfl rfl)) | (apply iq_nck; (exact q_nilck rfl)))) ?_))) | refine c_region ?_ | refine l_nil ?_ | (refine i_q ?_; (first | refine d_then ?_ | refine t_then ?_ | refine t_block ?_)) | (refine i_store ?_; ((refine l_set tab rfl rfl rfl rfl (by first | ((repeat (first | exact Upd.head | apply Upd.tail)); done) | fail) (by first | ((repeat (first | exact LSet.zero | apply LSet.succ)); done) | fail) ?_)))))
      refine k_again (.slice A6 (segs'.length + 1) c6, segs' ++ [⟨b6, pv', pgs', sd⟩]) ⟨by simp; omega, ?_⟩ (by simp; omega) (by first | ((repeat (first | exact trivial | exact rfl | apply Sub.cons | exact look_int rfl (by omega) | exact look_int rfl (by simp) | exact look_int rfl (by simp; omega))); done) | fail) (fun w h => ?_)
      · dsimp only
        rw [List.map_append, hk2, List.length_append, List.length_singleton, List.take_add_one, List.getElem?_map, hsk]
        rfl
      rw [List.take_of_length_le (by omega)] at h
      have h1 := segA_mk (s := ⟨b6, pv', pgs', sd⟩) ((st_pure (p := pgs'.length = sd.dat.length) (by omega) (h.pick [2, 3, 4, 0, 5, 6, 7] rfl)).pick [1, 2, 0, 3, 4, 5, 6, 7] rfl)
      have h2 := st_snoc (h1.pick [0, 3, 1, 2, 4] rfl)
      dsimp only
      rw [List.length_append, List.length_singleton, List.map_append, List.map_append]
      exact h2.pick [2, 1, 0, 3] rfl
  · have hkn : segs'.length = segs.length := by omega
    (repeat (first | (refine i_dst ?_; (first | (refine i_move ?_; refine l_q rfl rfl rfl (q_move rfl) ?_) | (refine i_assign ?_; refine l_q rfl rfl rfl (q_assign rfl) ?_) | (refine i_bin ?_; refine l_q rfl rfl rfl (by (exact q_lss rfl rfl)) ?_))) | refine d_seq ?_ | refine c_region ?_ | refine l_nil ?_ | (refine i_q ?_; (first | refine d_then ?_ | refine d_then_exit ?_ | refine t_then_exit ?_ | refine t_block_eq rfl ?_)) | refine c_exit ?_ | refine c_ret ?_ | (refine i_cond ?_; (refine c_cf rfl (by (exact decide_eq_false (by omega))) ?_))))
    refine t_hp (hp' := [memA q ⟨.slice A' ram.length c', ram, sv', segs'⟩]) (fun w h => memA_mk (h.pick [0, 3, 1, 2] rfl)) (t_ret1 Try.results24 rfl ⟨q, _, rfl, rfl, ?_⟩)
    simp only [MemV.abs]
    rw [hk2, List.take_of_length_le (by simp; omega)]
end Go.Proofs.Ytboccjdncdaakaa

/-
  Layer 14: Apply, walked; and a nil Stim.
-/

set_option linter.unusedVariables false
set_option maxRecDepth 100000
namespace Go.Proofs.Ytboccjdncdaakaa
open Go.RowKit
attribute [local irreducible] TL TC TQ TK TO Qt TA
def ApplyOut (t : TypeId) (p q : Nat) (r : Sm × Mm × Bool) (v : Value) (B : List Asn) : Prop := ∃ x' m', v = .bool r.2.2 ∧ B = [stimA t p x', memA q m'] ∧ absS x' = r.1 ∧ m'.abs = r.2.1
theorem part_out {S : Nat → Prop} {w0 w : World} {y : PartV} {F : List Asn} (h : St S w0 (partA y :: F) w) : Ro (fps F) w (partA y) := ⟨h.all _ (by simp), fun b hb ⟨X, hX, hx⟩ => h.ap.1 X hX b hb hx⟩
attribute [local irreducible] blk row bytesA starL memA segA roB
attribute [local irreducible] stimA partA
set_option maxHeartbeats 4000000 in
theorem sapply_spec {p q : Nat} {x : List PartV} {m : MemV} {w : World} (hA : Hold [stimA sT p x, memA q m] w) (hk : MmOk m.abs) (list : Int) (v : List Value) (l : ListI) (hl : InList (fps [stimA sT p x, memA q m]) w v l) (hsm : SmallL l) :
    Calls Try.prog 10 #[.pointer (some ⟨p, 0, none⟩), .pointer (some ⟨q, 0, none⟩), .int .i64 list, .agg v.toArray] w (Ret w [stimA sT p x, memA q m] (ApplyOut sT p q (applyS (absS x) m.abs list l.tabs))) := by
  have hx4 : x.length = 4 := stim_len (t := sT) (p := p) (hA.all _ (by simp))
  have hl0 := hl
  obtain ⟨⟨A, n, c, rfl, htab, hnc, hcm⟩, hl1, hl2, hl3, hl4⟩ := hl
  have htl := htab.len
  refine enter (vs := [.pointer (some ⟨p, 0, none⟩), .pointer (some ⟨q, 0, none⟩), .int .i64 list, .agg #[.int .i64 l.first, .slice A n c, .bool l.stim, .int .u8 l.ev, .int .u8 l.pre, .int .u8 l.pri, .bool l.on, .bool l.ch]]) Try.func10 rfl Try.ntmps10 rfl hA ?_
  (repeat (first | (refine i_dst ?_; (first | (refine i_move ?_; refine l_q rfl rfl rfl (q_move rfl) ?_) | (refine i_assign ?_; refine l_q rfl rfl rfl (q_assign rfl) ?_) | (refine i_load ?_; refine l_q rfl rfl rfl (by ((exact q_ldN tab rfl rfl rfl rfl (by first | ((repeat (first | exact List.Mem.head _ | apply List.Mem.tail)); done) | fail) (by first | ((repeat (first | exact TakeR.nil | apply TakeR.cons | apply CutR.zero | apply CutR.skip)); done) | fail)))) ?_) | (refine i_box ?_; (refine l_boxA rfl rfl (fun _ => ?_))))) | refine d_seq ?_ | refine c_region ?_ | refine l_nil ?_ | (refine i_q ?_; (refine d_then ?_))))
  rename_i b7
  (refine l_call0 rfl rfl Try.func22 rfl (by decide) (fun w' h => sfull_spec (x := x) (Ro.empty (h.mem (by first | ((repeat (first | exact List.Mem.head _ | apply List.Mem.tail)); done) | fail))) list _ l (hl0.to (fun r hr => roOf0 h hr))) (fun v B hv => ?_); obtain ⟨rfl, rfl⟩ := hv)
  cases hf : fullS (absS x) list l.tabs with
  | false =>
    have et : applyS (absS x) m.abs list l.tabs = (absS x, m.abs, false) := by rw [applyS, hf]; rfl
    rw [et]
    (repeat (first | (refine i_dst ?_; (first | (refine i_assign ?_; refine l_q rfl rfl rfl (q_assign rfl) ?_) | refine l_q rfl rfl rfl (by (exact q_not rfl)) ?_)) | refine d_seq ?_ | refine c_region ?_ | refine l_nil ?_ | (refine i_q ?_; (first | refine d_then ?_ | refine d_then_ret ?_)) | refine c_ret ?_ | (refine i_cond ?_; (refine c_ct rfl (by (rfl)) ?_))))
    exact t_hp (hp' := [stimA sT p x, memA q m]) (fun w h => h.subl (by first | ((repeat (first | exact SubL.nil | apply SubL.keep | apply SubL.skip)); done) | fail)) (t_ret1 Try.results10 rfl ⟨x, m, rfl, rfl, rfl, rfl⟩)
  | true =>
    have hf' := hf
    simp only [fullS, decide_eq_true_eq] at hf'
    obtain ⟨i, rfl⟩ : ∃ i : Nat, list = i := ⟨list.toNat, by omega⟩
    rw [Int.toNat_natCast] at hf'
    obtain ⟨y, hy⟩ : ∃ y, x[i]? = some y := ⟨_, List.getElem?_eq_getElem (by omega)⟩
    rw [absS_get hy] at hf'
    have et : applyS (absS x) m.abs i l.tabs = ((absS x).set i [], (match writesM m.abs l.tabs y.bs with | some M' => M' | none => m.abs), (writesM m.abs l.tabs y.bs).isSome) := by
      rw [applyS, hf, if_pos rfl, Int.toNat_natCast, absS_get hy]
      cases writesM m.abs l.tabs y.bs <;> rfl
    rw [et]
    (repeat (first | (refine i_dst ?_; (first | (refine i_move ?_; refine l_q rfl rfl rfl (q_move rfl) ?_) | (refine i_ix ?_; refine l_q rfl rfl rfl (by (exact q_indexAddrA1 tab rfl rfl rfl rfl (by omega))) ?_) | (refine l_q rfl rfl rfl (by (first | (apply iq_fld; (exact q_fieldAddr tab rfl rfl rfl rfl rfl rfl rfl)) | (apply iq_nck; (exact q_nilck rfl)) | exact q_not rfl)) ?_))) | refine d_seq ?_ | refine c_region ?_ | refine l_nil ?_ | (refine i_q ?_; (refine d_then ?_)) | refine c_skip ?_ | (refine i_cond ?_; (refine c_cf rfl (by (rfl)) ?_))))
    refine l_hp (hp' := partA y :: blk p (x.map (·.v)) sT :: starL ((x.map partA).set i emp) :: starL [emp, pureA (x.length = 4), emp] :: [blk b7 [.int .i64 l.first, .slice A n c, .bool l.stim, .int .u8 l.ev, .int .u8 l.pre, .int .u8 l.pri, .bool l.on, .bool l.ch] 27, memA q m]) (fun w h => stim_focus hy (h.ext (by first | ((repeat (first | exact Ext.head | apply Ext.tail)); done) | fail))) ?_
    refine l_fact (p := ∃ Ay cy, y.v = .slice Ay y.bs.length cy ∧ y.bs.length ≤ cy ∧ cy ≤ maxLen ∧ y.vs.length = y.bs.length) (fun w h => part_v (h.get (i := 0) rfl)) ?_
    rintro ⟨Ay, cy, hyv, hy2, hy3, hy4⟩
    have hv : (x.map (·.v))[0 + 0 + (i : Int).toNat]? = some (.slice Ay y.bs.length cy) := by simp [hy, hyv]
    have hmx' : 0 + 0 + (i : Int).toNat < (x.map (·.v)).length := by rw [List.length_map]; omega
    have e0 : 0 + 0 + (i : Int).toNat = i := by omega
    (repeat (first | (refine i_dst ?_; (first | (refine i_move ?_; refine l_q rfl rfl rfl (q_move rfl) ?_) | (refine i_assign ?_; refine l_q rfl rfl rfl (q_assign rfl) ?_) | (refine i_load ?_; refine l_q rfl rfl rfl (by ((exact q_ld1 tab rfl rfl rfl (by first | ((repeat (first | exact List.Mem.head _ | apply List.Mem.tail)); done) | fail) (by (assumption))))) ?_) | (refine i_ix ?_; refine l_q rfl rfl rfl (by (exact q_indexAddrA1 tab rfl rfl rfl rfl (by omega))) ?_) | (refine l_q rfl rfl rfl (by (first | (apply iq_fld; (exact q_fieldAddr tab rfl rfl rfl rfl rfl rfl rfl)) | (apply iq_nck; (exact q_nilck rfl)))) ?_))) | refine d_seq ?_ | refine c_region ?_ | refine l_nil ?_ | (refine i_q ?_; (refine d_then ?_)) | (refine i_store ?_; ((refine l_setI tab rfl rfl rfl rfl (by first | ((repeat (first | exact Upd.head | apply Upd.tail)); done) | fail) (by (omega)) ?_)))))
    (refine a_begin mixed [blk b7 [.int .i64 l.first, .slice A n c, .bool l.stim, .int .u8 l.ev, .int .u8 l.pre, .int .u8 l.pri, .bool l.on, .bool l.ch] 27] 12 rfl (fun w h => h.subl (by first | ((repeat (first | exact SubL.nil | apply SubL.keep | apply SubL.skip)); done) | fail)) ?_)
    ((refine a_q 0 rfl rfl rfl rfl rfl (by decide +kernel) (q_move rfl) ?_; ((refine a_q 2 rfl rfl rfl rfl rfl (by decide +kernel) (by ((exact q_ldN tab rfl rfl rfl rfl (by first | ((repeat (first | exact List.Mem.head _ | apply List.Mem.tail)); done) | fail) (by first | ((repeat (first | exact TakeR.nil | apply TakeR.cons | apply CutR.zero | apply CutR.skip)); done) | fail)))) ?_)); refine a_q 3 rfl rfl rfl rfl rfl (by decide +kernel) (q_move rfl) ?_))
    (refine a_e 1 rfl (by decide +kernel) rfl (fun K hK => e_call0 rfl rfl Try.func24 rfl (by decide) (fun w' h => mclone_spec (m := m) (Ro.empty (h.mem (by first | ((repeat (first | exact List.Mem.head _ | apply List.Mem.tail)); done) | fail))) hk) (fun v B hv => ?_)); obtain ⟨q2, m2, rfl, rfl, hm2⟩ := hv; refine hK _ _ (fun w h => h.subl (by first | ((repeat (first | exact SubL.nil | apply SubL.keep | apply SubL.skip)); done) | fail)) ?_; clear hK)
    have hk2 : MmOk m2.abs := by rw [hm2]; exact hk
    (skip)
    (refine a_e 4 rfl (by decide +kernel) rfl (fun K hK => e_call1 (X := memA q2 m2) (by first | ((repeat (first | exact Ext.head | apply Ext.tail)); done) | fail) rfl rfl Try.func23 rfl (by decide) (fun w' h => by have := swrites_spec h.split hk2 _ l (hl0.to (fun r hr => h.roOf hr (fun X hX => by simp at hX; simp [hX]))) hsm y (h.roHp (A := [memA q2 m2]) (by first | ((repeat (first | exact List.Mem.head _ | apply List.Mem.tail)); done) | fail)) hf'.2.2.2; rw [hyv] at this; exact this) (fun v B hv => ?_)); obtain ⟨m3, rfl, rfl, hk3, hm3⟩ := hv; refine hK _ _ (fun w h => h.subl (by first | ((repeat (first | exact SubL.nil | apply SubL.keep | apply SubL.skip)); done) | fail)) ?_; clear hK)
    rw [hm2] at hm3 ⊢
    cases hw : writesM m.abs l.tabs y.bs with
    | none =>
      ((refine a_q 5 rfl rfl rfl rfl rfl (by decide +kernel) (q_move rfl) ?_; (refine a_gf 6 rfl rfl rfl rfl rfl rfl rfl rfl (by decide +kernel) ?_); (refine a_gf 7 rfl rfl rfl rfl rfl rfl rfl rfl (by decide +kernel) ?_); (refine a_gf 8 rfl rfl rfl rfl rfl rfl rfl rfl (by decide +kernel) ?_)))
      refine a_gf 9 rfl rfl rfl rfl rfl rfl rfl rfl (by decide +kernel) ?_
      ((refine a_q 10 rfl rfl rfl rfl rfl (by decide +kernel) (by (exact q_pick_f rfl rfl)) ?_; refine a_q 11 rfl rfl rfl rfl rfl (by decide +kernel) (q_assign rfl) ?_))
      refine a_done (by decide +kernel) ?_
      (repeat (first | (refine i_q ?_; (refine d_then ?_)) | refine c_ret ?_))
      refine t_hp (hp' := [stimA sT p (x.set i nilP), memA q m]) (fun w h => ?_) (t_ret1 Try.results10 rfl ⟨_, m, rfl, rfl, by rw [absS_set]; rfl, rfl⟩)
      rw [e0] at h
      exact stim_unfocus (by omega) (part_nil (h.subl (by first | ((repeat (first | exact SubL.nil | apply SubL.keep | apply SubL.skip)); done) | fail)))
    | some M' =>
      ((refine a_q 5 rfl rfl rfl rfl rfl (by decide +kernel) (q_move rfl) ?_; (refine a_gt 6 rfl rfl rfl rfl rfl rfl rfl (by decide +kernel) (q_move rfl) ?_); ((refine a_gt 7 rfl rfl rfl rfl rfl rfl rfl (by decide +kernel) (by ((exact q_ldN tab rfl rfl rfl rfl (by first | ((repeat (first | exact List.Mem.head _ | apply List.Mem.tail)); done) | fail) (by first | ((repeat (first | exact TakeR.nil | apply TakeR.cons | apply CutR.zero | apply CutR.skip)); done) | fail)))) ?_)); (refine a_gt 8 rfl rfl rfl rfl rfl rfl rfl (by decide +kernel) (q_move rfl) ?_)))
      refine a_eg 9 rfl (by decide +kernel) rfl rfl rfl (fun K hK => e_call1 (X := memA q m) (by first | ((repeat (first | exact Ext.head | apply Ext.tail)); done) | fail) rfl rfl Try.func23 rfl (by decide) (fun w' h => by have := swrites_spec h.split hk _ l (hl0.to (fun r hr => h.roOf hr (fun X hX => by simp at hX; simp [hX]))) hsm y (h.roHp (A := [memA q m]) (by first | ((repeat (first | exact List.Mem.head _ | apply List.Mem.tail)); done) | fail)) hf'.2.2.2; rw [hyv] at this; exact this) (fun v B hv => ?_))
      obtain ⟨m4, rfl, rfl, hk4, hm4⟩ := hv
      refine hK _ _ (fun w h => h.subl (by first | ((repeat (first | exact SubL.nil | apply SubL.keep | apply SubL.skip)); done) | fail)) ?_
      clear hK
      rw [hw]
      ((refine a_q 10 rfl rfl rfl rfl rfl (by decide +kernel) (by (exact q_pick_t rfl rfl)) ?_; refine a_q 11 rfl rfl rfl rfl rfl (by decide +kernel) (q_assign rfl) ?_))
      refine a_done (by decide +kernel) ?_
      (repeat (first | (refine i_q ?_; (refine d_then ?_)) | refine c_ret ?_))
      refine t_hp (hp' := [stimA sT p (x.set i nilP), memA q m4]) (fun w h => ?_) (t_ret1 Try.results10 rfl ⟨_, m4, rfl, rfl, by rw [absS_set]; rfl, hm4 _ hw⟩)
      rw [e0] at h
      have h1 := stim_unfocus (F := [memA q m4]) (z := nilP) (t := sT) (p := p) (x := x) (i := i) (by omega) (part_nil ((h.ext (X := memA q m4) (by first | ((repeat (first | exact Ext.head | apply Ext.tail)); done) | fail)).subl (by first | ((repeat (first | exact SubL.nil | apply SubL.keep | apply SubL.skip)); done) | fail) |>.perm (List.perm_append_comm (l₁ := [memA q m4]) (l₂ := [blk p ((x.map (·.v)).set i nilP.v) sT, starL ((x.map partA).set i emp), starL [emp, pureA (x.length = 4), emp]])) ))
      exact h1
end Go.Proofs.Ytboccjdncdaakaa

/-
  Layer 14: lists of one's own.
-/

set_option linter.unusedVariables false
set_option maxRecDepth 100000
namespace Go.Proofs.Ytboccjdncdaakaa
open Go.RowKit
attribute [local irreducible] TL TC TQ TK TO Qt TA
/-! ### Lists of one's own -/
structure LstV where
  l : ListI
  tv : Value
  tvs : List Value
def lstCells (x : LstV) : List Value := [.int .i64 x.l.first, x.tv, .bool x.l.stim, .int .u8 x.l.ev, .int .u8 x.l.pre, .int .u8 x.l.pri, .bool x.l.on, .bool x.l.ch]
def tabsA (x : LstV) : Asn := row 37 1 x.tv x.tvs.length x.tvs
structure LstOk (S : Nat → Prop) (w0 : World) (x : LstV) : Prop where
  len : x.tvs.length = x.l.tabs.length
  tab : ∀ (k : Nat) v t, x.tvs[k]? = some v → x.l.tabs[k]? = some t → InTab S w0 [v] t
  first : -9223372036854775808 ≤ x.l.first ∧ x.l.first ≤ 9223372036854775807
  ev : x.l.ev ≤ 255
  pre : x.l.pre ≤ 255
  pri : x.l.pri ≤ 255
theorem rowEE : RowT tab 25 37 1 24 (.slice none 0 0) := ⟨rfl, rfl, rfl, by decide⟩
theorem rowLL : RowT tab 22 27 8 40 (.agg #[.int .i64 0, .slice none 0 0, .bool false, .int .u8 0, .int .u8 0, .int .u8 0, .bool false, .bool false]) := ⟨rfl, rfl, rfl, by decide⟩
theorem InS.rows {α : Type} {S : Nat → Prop} {w0 : World} {sz n : Nat} {p : List Value → α → Prop} {A : Option Addr} {xs : List α} (rows : List (List Value)) (hx : xs.length = n) (hl : rows.length = n) (hs : ∀ r ∈ rows, r.length = sz) (h : Ro S w0 (roV A (n * sz) rows.flatten)) (hp : ∀ (i : Nat) r x, rows[i]? = some r → xs[i]? = some x → p r x) : InS S w0 sz p A n xs := ⟨hx, rows, hl, hs, h, hp⟩
theorem flatten_singles : ∀ (l : List Value), (l.map fun v => [v]).flatten = l
  | [] => rfl
  | v :: l => by simp [flatten_singles l]
theorem lists_in {S S' : Nat → Prop} {w0 w1 : World} {A : Option Addr} {n c : Nat} {xs : List LstV} (hn : xs.length = n) (h1 : Ro S' w1 (row 27 8 (.slice A n c) n (xs.flatMap lstCells))) (h2 : Ro S' w1 (starL (xs.map tabsA))) (hok : ∀ x ∈ xs, LstOk S w0 x) (hto : ∀ r, Ro S w0 r → Ro S' w1 r) : InS S' w1 8 (InList S' w1) A n (xs.map (·.l)) := by
  refine InS.rows (xs.map lstCells) (by simpa using hn) (by simpa using hn) (fun r hr => ?_) (by rw [← List.flatMap_def]; exact h1.rowV) (fun i r x hr hx => ?_)
  · obtain ⟨x, _, rfl⟩ := List.mem_map.1 hr
    rfl
  · simp only [List.getElem?_map, Option.map_eq_some_iff] at hr hx
    obtain ⟨y, hy, rfl⟩ := hr
    obtain ⟨y', hy', rfl⟩ := hx
    rw [hy] at hy'
    injection hy' with hy'
    subst hy'
    obtain ⟨k1, k2, k3, k4, k5, k6⟩ := hok y (List.mem_of_getElem? hy)
    have hrow : Ro S' w1 (tabsA y) := Ro.star h2 (i := i) (by simp [hy])
    obtain ⟨At, ct, e1, e2, e3, -⟩ := row_slice hrow.is
    have hrow' : Ro S' w1 (row 37 1 (.slice At y.tvs.length ct) y.tvs.length y.tvs) := by rw [← e1]; exact hrow
    refine ⟨⟨At, y.tvs.length, ct, by rw [lstCells, e1], ?_, e2, e3⟩, k3, k4, k5, k6⟩
    refine InS.rows (y.tvs.map fun v => [v]) k1.symm (by simp) (fun r hr => ?_) (by rw [flatten_singles]; exact hrow'.rowV) (fun j r x hr hx => ?_)
    · obtain ⟨v, _, rfl⟩ := List.mem_map.1 hr
      rfl
    · simp only [List.getElem?_map, Option.map_eq_some_iff] at hr
      obtain ⟨v, hv, rfl⟩ := hr
      exact (k2 j v x hv hx).to hto
/-- A row laid open, to be changed, and shut. -/
theorem row_open {S : Nat → Prop} {w0 w : World} {e : TypeId} {size n c : Nat} {A : Option Addr} {xs : List Value} {F : List Asn} (hn : 0 < n) (h : St S w0 (row e size (.slice A n c) n xs :: F) w) : ∃ y : Nat × List Value, (A = some ⟨y.1, 0, none⟩ ∧ n ≤ c ∧ c ≤ maxLen ∧ (xs ++ y.2).length = c * size) ∧ St S w0 (Proofs.Ytboccjdncdaakaa.blk y.1 (xs ++ y.2) e :: F) w := by
  obtain ⟨g, cap, junk, e1, e2, e3, e4, e5⟩ := row_blk (h.get (i := 0) rfl) hn
  injection e1 with e1 e6 e7
  subst e1 e7
  exact ⟨(g, junk), ⟨rfl, e2, e3, e4⟩, h.see (i := 0) rfl (fun _ => e5) (fun b hb => by rw [S_blk hb]; rfl)⟩
theorem row_shut {S : Nat → Prop} {w0 w : World} {e : TypeId} {size n c g : Nat} {xs junk : List Value} {F : List Asn} (hn : n ≤ c) (hc : c ≤ maxLen) (hx : xs.length = n * size) (hl : (xs ++ junk).length = c * size) (h : St S w0 (Proofs.Ytboccjdncdaakaa.blk g (xs ++ junk) e :: F) w) : St S w0 (row e size (.slice (some ⟨g, 0, none⟩) n c) n xs :: F) w :=
  h.see (i := 0) rfl (fun h => row_of_blk h size n c hn hc hl xs (by rw [← hx]; exact List.take_left)) (fun b hb => by injection hb with hb; exact blk_S hb.symm)
/-- One of the things, of memory that stays from W on, read at w. -/
theorem InS.get2 {α : Type} {S S' : Nat → Prop} {W w : World} {sz n : Nat} {p : List Value → α → Prop} {A : Option Addr} {xs : List α} (h : InS S W sz p A n xs) (hto : ∀ r, Ro S W r → Ro S' w r) (h0 : 0 < sz) {i : Nat} {x : α} (hi : xs[i]? = some x) : ∃ b o r, A = some ⟨b, o, none⟩ ∧ r.length = sz ∧ p r x ∧ ∀ hp w', St S' w hp w' → CellsAt w' b (o + i * sz) r := by
  obtain ⟨rows, h1, h2, h3, h4⟩ := h.ex
  have hin : i < n := by rw [← h.len]; exact (List.getElem?_eq_some_iff.1 hi).1
  obtain ⟨r, hr⟩ : ∃ r, rows[i]? = some r := ⟨_, List.getElem?_eq_getElem (by omega)⟩
  obtain ⟨b, o, hA, _⟩ := roV_cell h3.is (Nat.mul_pos (by omega) h0)
  refine ⟨b, o, r, hA, h2 r (List.mem_of_getElem? hr), h4 i r x hr hi, fun hp w' hS j u hu => ?_⟩
  obtain ⟨b', o', e1, e2⟩ := roV_cell (hS.ro (hto _ h3)) (Nat.mul_pos (by omega) h0)
  rw [hA] at e1
  injection e1 with e1
  injection e1 with e1 e3
  subst e1 e3
  rw [Nat.add_assoc]
  exact e2 _ _ (flatten_get h2 hr hu)
/-- A block as a row of things. -/
theorem InS.blk {α : Type} {S : Nat → Prop} {w0 : World} {sz b : Nat} {t : TypeId} {p : List Value → α → Prop} {xs : List α} (rows : List (List Value)) (h : Ro S w0 (Proofs.Ytboccjdncdaakaa.blk b rows.flatten t)) (hl : rows.length = xs.length) (hs : ∀ r ∈ rows, r.length = sz) (hp : ∀ (i : Nat) r x, rows[i]? = some r → xs[i]? = some x → p r x) : InS S w0 sz p (some ⟨b, 0, none⟩) xs.length xs := by
  refine InS.rows rows rfl hl hs (h.sub (fun h => roV_blk h (by rw [length_flatten' hs, hl])) (fun x ⟨_, o, hx⟩ => ?_)) hp
  injection hx with hx
  injection hx with hx
  exact hx.symm
theorem flat_set {α : Type} {f : α → List Value} {s : Nat} (hf : ∀ x, (f x).length = s) : ∀ {l : List α} {i : Nat} {x y : α}, l[i]? = some x → ∀ {k : Nat} {v : Value}, k < s → (f x).set k v = f y → (l.flatMap f).set (i * s + k) v = (l.set i y).flatMap f
  | [], i, x, y, h, k, v, _, _ => by simp at h
  | z :: l, 0, x, y, h, k, v, hk, hv => by
    simp at h
    subst h
    rw [Nat.zero_mul, Nat.zero_add, List.flatMap_cons, List.set_append_left _ _ (by rw [hf]; exact hk), hv]
    rfl
  | z :: l, i + 1, x, y, h, k, v, hk, hv => by
    have := flat_set hf (l := l) (i := i) (x := x) (y := y) (by simpa using h) hk hv
    rw [List.flatMap_cons, List.set_append_right _ _ (by rw [hf, Nat.add_mul]; omega), hf, show (i + 1) * s + k - s = i * s + k by rw [Nat.add_mul]; omega, this]
    rfl
theorem len_lst (x : LstV) : (lstCells x).length = 8 := rfl
def cutL (k : Nat) (l : ListI) : ListI := ⟨l.first, (l.tabs.take 4).map (·.take k), l.stim, l.ev, l.pre, l.pri, l.on, l.ch⟩
def fewL (n k : Nat) (ls : List ListI) : List ListI := (ls.take n).map (cutL k)
theorem small_few {n k : Nat} {ls : List ListI} (hk : k ≤ 1000) : ∀ l ∈ fewL n k ls, SmallL l := fun l hl => by
  obtain ⟨l0, _, rfl⟩ := List.mem_map.1 hl
  refine ⟨by simp [cutL]; omega, fun t ht => ?_⟩
  obtain ⟨t0, _, rfl⟩ := List.mem_map.1 ht
  simp
  omega
def FewOut (S : Nat → Prop) (w0 : World) (ls : List ListI) (v : Value) (B : List Asn) : Prop := ∃ (A : Option Addr) (c : Nat) (xs : List LstV), v = .slice A xs.length c ∧ xs.length ≤ c ∧ c ≤ maxLen ∧ B = [row 27 8 (.slice A xs.length c) xs.length (xs.flatMap lstCells), starL (xs.map tabsA)] ∧ xs.map (·.l) = ls ∧ ∀ x ∈ xs, LstOk S w0 x
end Go.Proofs.Ytboccjdncdaakaa

/-
  Layer 14: StimAll's plain law; tables of one's own.
-/

set_option linter.unusedVariables false
set_option maxRecDepth 100000
namespace Go.Proofs.Ytboccjdncdaakaa
open Go.RowKit
attribute [local irreducible] TL TC TQ TK TO Qt TA
/-! ### The plain law -/
theorem take_one {l : ListI} (ho : l.on = true) (hs : l.stim = true) (hf : l.first = 0) {i : Nat} {t : List EntryI} (ht : l.tabs[i]? = some t) (hl : l.tabs.length ≤ 4) {b : List Int} (hb : needsM t ≤ b.length) (X0 : List (List Int)) :
    takeS [X0, [], [], []] [l] i b = if i = 0 then ([[b], [], [], []], true) else if i = X0.length then ([X0 ++ [b], [], [], []], true) else ([[], [], [], []], false) := by
  have hi := (List.getElem?_eq_some_iff.1 ht).1
  have hk : kM i l.first = i := by
    rw [kM, hf, Int.sub_zero]
    exact wr_i64 (by omega)
  have hh : hitM i l = true := by
    rw [hitM, ho, hs, hk]
    simp
    omega
  have ho1 : ofM i [l] = some (0, i) := by
    rw [ofM]
    show ofFrom i 0 [l] = _
    rw [ofFrom, if_pos hh, hk, Int.toNat_natCast]
  have htm : tabM [l] 0 i = t := by simp [tabM, List.getD_eq_getElem?_getD, ht]
  rw [takeS, ho1]
  dsimp only
  rw [htm, if_neg (by omega)]
  by_cases h0 : i = 0
  · rw [if_pos h0, if_pos h0]; rfl
  · rw [if_neg h0, if_neg h0]
    show (if i = X0.length then _ else _) = _
    split <;> rfl
theorem full_one (X0 : List (List Int)) (tabs : List (List EntryI)) : fullS [X0, [], [], []] 0 tabs = decide (0 < tabs.length ∧ X0.length = tabs.length) := by
  rw [fullS]
  show decide (_ ∧ _ ∧ _ ∧ X0.length = tabs.length) = _
  simp
/-- Of 16 plain bytes, and a segment of 4. -/
structure Shp (M : Mm) : Prop where
  ok : MmOk M
  ram : M.ram.length = 16
  seg : ∃ s, M.segs = [s] ∧ s.ln = 4
theorem spl_len {l x : List Int} {a : Nat} (h : a + x.length ≤ l.length) : (spl l a x).length = l.length := by
  unfold spl
  simp
  omega
theorem Shp.write {M : Mm} (h : Shp M) {area : Nat} {at_ : Int} {x : List Int} (h0 : 0 ≤ at_) : Shp (writeM M 1 area at_ x).1 := by
  obtain ⟨h1, h2, s, h3, h4⟩ := h
  refine ⟨writeM_ok h1 h0, ?_, ?_⟩
  · unfold writeM
    split
    · exact h2
    · split
      · exact h2
      · rename_i l f ha
        split
        · exact h2
        · split
          · exact h2
          · split
            · exact h2
            · dsimp only
              unfold setArea
              by_cases h5 : area = 0
              · rw [if_pos h5]
                unfold areaM at ha
                rw [if_pos h5] at ha
                injection ha with ha
                injection ha with ha _
                subst ha
                dsimp only
                rw [spl_len (by omega)]
                exact h2
              · rw [if_neg h5]
                split
                · exact h2
                · exact h2
  · unfold writeM
    split
    · exact ⟨s, h3, h4⟩
    · split
      · exact ⟨s, h3, h4⟩
      · split
        · exact ⟨s, h3, h4⟩
        · split
          · exact ⟨s, h3, h4⟩
          · split
            · exact ⟨s, h3, h4⟩
            · dsimp only
              unfold setArea
              by_cases h5 : area = 0
              · rw [if_pos h5]; exact ⟨s, h3, h4⟩
              · rw [if_neg h5]
                split
                · exact ⟨s, h3, h4⟩
                · rename_i s' hs'
                  dsimp only
                  rw [h3] at hs' ⊢
                  have h6 : area - 1 = 0 := by
                    have := (List.getElem?_eq_some_iff.1 hs').1
                    rw [List.length_singleton] at this
                    omega
                  rw [h6] at hs' ⊢
                  injection hs' with hs'
                  subst hs'
                  exact ⟨_, rfl, h4⟩
theorem Shp.read0 {M : Mm} (h : Shp M) : (readM M 1 0 0 16).2 = 0 := by
  unfold readM
  rw [if_neg (by omega)]
  show (match areaM M 1 0 with | none => (([] : List Int), (80 : Int)) | some (l, _) => _).2 = 0
  have ha : areaM M 1 0 = some (M.ram, false) := rfl
  rw [ha]
  dsimp only
  rw [h.ram, if_neg (by omega)]
theorem Shp.read1 {M : Mm} (h : Shp M) : (readM M 1 1 0 4).2 = 0 := by
  obtain ⟨h1, h2, s, h3, h4⟩ := h
  have hk := h1.segs s (by rw [h3]; simp)
  obtain ⟨l, hl⟩ : ∃ l, s.dat[s.s0]? = some l := ⟨_, List.getElem?_eq_getElem hk.h0⟩
  have hll : l.length = 4 := (hk.len l (List.mem_of_getElem? hl)).trans h4
  have ha : areaM M 1 1 = some (l, decide (s.s0 = 0)) := by
    unfold areaM
    rw [if_neg (by omega), h3]
    show (match s.dat[s.s0]? with | some l => some (l, decide (s.s0 = 0)) | none => none) = _
    rw [hl]
  unfold readM
  rw [if_neg (by omega), ha]
  dsimp only
  rw [hll, if_neg (by omega)]
section
variable {M0 : Mm} {tabs : List (List EntryI)} {bs : List (List Int)}
/-- What was written of the first i tables. -/
structure WrI (M0 : Mm) (tabs : List (List EntryI)) (bs : List (List Int)) (i : Nat) (M : Mm) (g : Bool) : Prop where
  shp : Shp M
  yes : g = true → ((tabs.zip bs).take i).foldlM stepT M0 = some M
  no : g = false → writesM M0 tabs bs = none
theorem WrI.start (h : Shp M0) : WrI M0 tabs bs 0 M0 true := ⟨h, fun _ => rfl, fun h => by cases h⟩
theorem WrI.done {M : Mm} {g : Bool} (h : WrI M0 tabs bs tabs.length M g) (hl : bs.length = tabs.length) : writesM M0 tabs bs = if g = true then some M else none := by
  cases g with
  | true =>
    have := h.yes rfl
    rw [List.take_of_length_le (by rw [List.length_zip]; omega)] at this
    rw [if_pos rfl]
    exact this
  | false => rw [if_neg (by simp)]; exact h.no rfl
/-- And of the first k entries of the next table. -/
structure WrE (M0 : Mm) (tabs : List (List EntryI)) (bs : List (List Int)) (i : Nat) (M : Mm) (t : List EntryI) (b : List Int) (k : Nat) (M' : Mm) (g : Bool) : Prop where
  shp : Shp M'
  yes : g = true → ((tabs.zip bs).take i).foldlM stepT M0 = some M ∧ (t.take k).foldlM stepE (M, b) = some (M', b.drop (needsM (t.take k)))
  no : g = false → writesM M0 tabs bs = none
theorem WrI.enter {i : Nat} {M : Mm} {g : Bool} (h : WrI M0 tabs bs i M g) (t : List EntryI) (b : List Int) : WrE M0 tabs bs i M t b 0 M g := ⟨h.shp, fun e => ⟨h.yes e, rfl⟩, h.no⟩
theorem WrE.skip {i k : Nat} {M M' : Mm} {t : List EntryI} {b : List Int} (h : WrE M0 tabs bs i M t b k M' false) : WrE M0 tabs bs i M t b (k + 1) M' false := ⟨h.shp, fun e => (by cases e), h.no⟩
theorem WrE.step {i k : Nat} {M M' : Mm} {t : List EntryI} {b : List Int} {e : EntryI} (h : WrE M0 tabs bs i M t b k M' true) (ht : tabs[i]? = some t) (hb : bs[i]? = some b) (hn : needsM t ≤ b.length) (he : t[k]? = some e) (h0 : (0 : Int) ≤ e.at_) :
    WrE M0 tabs bs i M t b (k + 1) (writeM M' 1 e.area e.at_ ((b.drop (needsM (t.take k))).take e.size)).1 (decide ((writeM M' 1 e.area e.at_ ((b.drop (needsM (t.take k))).take e.size)).2 = 0)) := by
  obtain ⟨h1, h2⟩ := h.yes rfl
  have h3 := foldlM_take he h2
  rw [stepE] at h3
  dsimp only at h3
  refine ⟨h.shp.write h0, fun hg => ⟨h1, ?_⟩, fun hg => ?_⟩
  · rw [h3, if_pos (of_decide_eq_true hg), needsM_take he, List.drop_drop]
  · rw [if_neg (of_decide_eq_false hg)] at h3
    have h4 : stepT M (t, b) = none := by
      rw [stepT, if_neg (by dsimp only; omega)]
      dsimp only
      rw [foldlM_stop h3]
      rfl
    have h5 := foldlM_take (zip_get ht hb) h1
    rw [h4] at h5
    exact foldlM_stop h5
theorem WrE.leave {i : Nat} {M M' : Mm} {t : List EntryI} {b : List Int} {g : Bool} (h : WrE M0 tabs bs i M t b t.length M' g) (ht : tabs[i]? = some t) (hb : bs[i]? = some b) (hn : needsM t ≤ b.length) : WrI M0 tabs bs (i + 1) M' g := by
  refine ⟨h.shp, fun hg => ?_, h.no⟩
  obtain ⟨h1, h2⟩ := h.yes hg
  rw [List.take_length] at h2
  rw [foldlM_take (zip_get ht hb) h1, stepT, if_neg (by dsimp only; omega)]
  dsimp only
  rw [h2]
  rfl
end
/-! ### Tables of one's own -/
def enC (e : EntryI) : List Value := [.int .u8 e.size, .int .u8 e.area, .int .u32 e.at_]
def entA (v : Value) (t : List EntryI) : Asn := row 44 3 v t.length (t.flatMap enC)
structure OT where
  tv : Value
  tvs : List Value
  tabs : List (List EntryI)
def otL (y : OT) : List Asn := [row 37 1 y.tv y.tvs.length y.tvs, pureA (y.tvs.length = y.tabs.length), starL (List.zipWith entA y.tvs y.tabs)]
def otA (y : OT) : Asn := starL (otL y)
def EntOk (t : List EntryI) : Prop := ∀ e ∈ t, e.size ≤ 255 ∧ e.area ≤ 255 ∧ e.at_ ≤ 4294967295
theorem rowEn : RowT tab 37 44 3 8 (.agg #[.int .u8 0, .int .u8 0, .int .u32 0]) := ⟨rfl, rfl, rfl, by decide⟩
section
variable {S : Nat → Prop} {w0 w : World} {F : List Asn} {y : OT}
theorem ot_mk (h : St S w0 (row 37 1 y.tv y.tvs.length y.tvs :: pureA (y.tvs.length = y.tabs.length) :: starL (List.zipWith entA y.tvs y.tabs) :: F) w) : St S w0 (otA y :: F) w := st_packs2 (Xs := otL y) h
theorem ot_nil (h : St S w0 F w) : St S w0 (otA ⟨.slice none 0 0, [], []⟩ :: F) w := ot_mk (y := ⟨.slice none 0 0, [], []⟩) ((st_nil (st_pure rfl (st_star0 h)) 37 1))
theorem ot_open (h : St S w0 (otA y :: F) w) : St S w0 (row 37 1 y.tv y.tvs.length y.tvs :: starL (List.zipWith entA y.tvs y.tabs) :: F) w := by
  have h1 : St S w0 (row 37 1 y.tv y.tvs.length y.tvs :: starL [emp, pureA (y.tvs.length = y.tabs.length), starL (List.zipWith entA y.tvs y.tabs)] :: F) w := st_take (j := 0) (i := 0) h rfl rfl
  have h2 : St S w0 (starL (List.zipWith entA y.tvs y.tabs) :: row 37 1 y.tv y.tvs.length y.tvs :: starL [emp, pureA (y.tvs.length = y.tabs.length), emp] :: F) w := st_take (j := 1) (i := 2) h1 rfl rfl
  exact (h2.perm (.swap _ _ _)).subl (.keep (.keep (.skip (SubL.refl F))))
theorem ot_shut {v u : Value} {n : Nat} {vs : List Value} {ts : List (List EntryI)} {t : List EntryI} (hn : vs.length = n) (hl : vs.length = ts.length) (h : St S w0 (row 37 1 v (n + 1) (vs ++ [u]) :: entA u t :: starL (List.zipWith entA vs ts) :: F) w) : St S w0 (otA ⟨v, vs ++ [u], ts ++ [t]⟩ :: F) w := by
  have h1 : St S w0 (starL (List.zipWith entA vs ts ++ [entA u t]) :: row 37 1 v (n + 1) (vs ++ [u]) :: F) w := st_snoc (h.perm (.trans (.swap _ _ _) (.cons _ (.swap _ _ _))))
  have e : List.zipWith entA (vs ++ [u]) (ts ++ [t]) = List.zipWith entA vs ts ++ [entA u t] := by
    rw [List.zipWith_append hl]
    rfl
  refine ot_mk ?_
  dsimp only
  rw [List.length_append, List.length_singleton, hn, e]
  refine (st_pure (p := n + 1 = (ts ++ [t]).length) (by rw [List.length_append, List.length_singleton]; omega) h1).perm ?_
  exact .trans (.cons _ (.swap _ _ _)) (.swap _ _ _)
end
theorem Ro.otLen {S : Nat → Prop} {w0 : World} {y : OT} (h : Ro S w0 (otA y)) : y.tvs.length = y.tabs.length := (Ro.star h (i := 1) (X := pureA (y.tvs.length = y.tabs.length)) rfl).is
theorem ent_in {S : Nat → Prop} {w : World} {v : Value} {t : List EntryI} (h : Ro S w (entA v t)) (ho : EntOk t) : InTab S w [v] t := by
  obtain ⟨A, c, rfl, e2, e3, -⟩ := row_slice h.is
  refine ⟨A, t.length, c, rfl, ?_, e2, e3⟩
  refine InS.rows (t.map enC) rfl (by simp) (fun r hr => by obtain ⟨x, _, rfl⟩ := List.mem_map.1 hr; rfl) (by rw [← List.flatMap_def]; exact h.rowV) (fun i r x hr hx => ?_)
  simp only [List.getElem?_map, hx, Option.map_some, Option.some.injEq] at hr
  exact ⟨hr.symm, ho x (List.mem_of_getElem? hx)⟩
def olI (y : OT) : ListI := ⟨0, y.tabs, true, 0, 0, 0, true, false⟩
def olV (y : OT) : List Value := [.int .i64 0, y.tv, .bool true, .int .u8 0, .int .u8 0, .int .u8 0, .bool true, .bool false]
theorem ol_in {S : Nat → Prop} {w : World} {y : OT} (h : Ro S w (otA y)) (ho : ∀ t ∈ y.tabs, EntOk t) : InList S w (olV y) (olI y) := by
  have hl := h.otLen
  have hrow : Ro S w (row 37 1 y.tv y.tvs.length y.tvs) := Ro.star h (i := 0) rfl
  obtain ⟨At, ct, e1, e2, e3, -⟩ := row_slice hrow.is
  have hrow' : Ro S w (row 37 1 (.slice At y.tvs.length ct) y.tvs.length y.tvs) := by rw [← e1]; exact hrow
  refine ⟨⟨At, y.tvs.length, ct, by rw [olV, e1]; rfl, ?_, e2, e3⟩, by show _ ∧ _; simp [olI], Nat.zero_le _, Nat.zero_le _, Nat.zero_le _⟩
  refine InS.rows (y.tvs.map fun v => [v]) hl.symm (by simp) (fun r hr => ?_) (by rw [flatten_singles]; exact hrow'.rowV) (fun j r x hr hx => ?_)
  · obtain ⟨v, _, rfl⟩ := List.mem_map.1 hr
    rfl
  · rw [List.getElem?_map, Option.map_eq_some_iff] at hr
    obtain ⟨v, hv, rfl⟩ := hr
    have hx' : y.tabs[j]? = some x := hx
    have h1 : Ro S w (entA v x) := Ro.star (Ro.star h (i := 2) rfl) (i := j) (by simp [List.getElem?_zipWith, hv, hx'])
    exact ent_in h1 (ho x (List.mem_of_getElem? hx'))
end Go.Proofs.Ytboccjdncdaakaa

/-
  Layer 11: lists as Daq has them; slices.Clone of entries, Lists, walked.
-/

set_option linter.unusedVariables false
set_option maxRecDepth 100000
namespace Go.Proofs.Ytboccjdncdaakaa
open Go.RowKit
attribute [local irreducible] TL TC TQ TK TO Qt TA
/-! ### Lists with tables of their own -/
def tblA (x : LstV) : Asn := otA ⟨x.tv, x.tvs, x.l.tabs⟩
structure LOk (l : ListI) : Prop where
  first : 0 ≤ l.first ∧ l.first ≤ 64
  ev : l.ev ≤ 255
  pre : l.pre ≤ 255
  pri : l.pri ≤ 255
  tabs : l.tabs.length ≤ 16
  tab : ∀ t ∈ l.tabs, EntOk t ∧ t.length ≤ 7 ∧ needsM t ≤ 7
theorem LOk.small {l : ListI} (h : LOk l) : SmallL l := ⟨by have := h.tabs; omega, fun t ht => by have := (h.tab t ht).2.1; omega⟩
theorem tbl_in {S : Nat → Prop} {w : World} {x : LstV} (h : Ro S w (tblA x)) (ho : LOk x.l) : InList S w (lstCells x) x.l := by
  have hl : x.tvs.length = x.l.tabs.length := h.otLen (y := ⟨x.tv, x.tvs, x.l.tabs⟩)
  have hrow : Ro S w (row 37 1 x.tv x.tvs.length x.tvs) := Ro.star h (i := 0) rfl
  obtain ⟨At, ct, e1, e2, e3, -⟩ := row_slice hrow.is
  have hrow' : Ro S w (row 37 1 (.slice At x.tvs.length ct) x.tvs.length x.tvs) := by rw [← e1]; exact hrow
  refine ⟨⟨At, x.tvs.length, ct, by rw [lstCells, e1], ?_, e2, e3⟩, by have := ho.first; omega, ho.ev, ho.pre, ho.pri⟩
  refine InS.rows (x.tvs.map fun v => [v]) hl.symm (by simp) (fun r hr => ?_) (by rw [flatten_singles]; exact hrow'.rowV) (fun j r t hr ht => ?_)
  · obtain ⟨v, _, rfl⟩ := List.mem_map.1 hr
    rfl
  · rw [List.getElem?_map, Option.map_eq_some_iff] at hr
    obtain ⟨v, hv, rfl⟩ := hr
    have h1 : Ro S w (entA v t) := Ro.star (Ro.star h (i := 2) rfl) (i := j) (by simp [List.getElem?_zipWith, hv, ht])
    exact ent_in h1 (ho.tab t (List.mem_of_getElem? ht)).1
theorem dq_in {S : Nat → Prop} {w : World} {A : Option Addr} {n c : Nat} {xs : List LstV} (hn : xs.length = n) (h1 : Ro S w (row 27 8 (.slice A n c) n (xs.flatMap lstCells))) (h2 : Ro S w (starL (xs.map tblA))) (hok : ∀ x ∈ xs, LOk x.l) : InS S w 8 (InList S w) A n (xs.map (·.l)) := by
  refine InS.rows (xs.map lstCells) (by simpa using hn) (by simpa using hn) (fun r hr => ?_) (by rw [← List.flatMap_def]; exact h1.rowV) (fun i r x hr hx => ?_)
  · obtain ⟨x, _, rfl⟩ := List.mem_map.1 hr
    rfl
  · simp only [List.getElem?_map, Option.map_eq_some_iff] at hr hx
    obtain ⟨y, hy, rfl⟩ := hr
    obtain ⟨y', hy', rfl⟩ := hx
    rw [hy] at hy'
    injection hy' with hy'
    subst hy'
    exact tbl_in (Ro.star h2 (i := i) (by simp [hy])) (hok y (List.mem_of_getElem? hy))
/-- The cells of entries that are read. -/
theorem ins_src {S : Nat → Prop} {w0 : World} {A : Option Addr} {n : Nat} {t : List EntryI} (h : InS S w0 3 InEntry A n t) {hp : List Asn} {w : World} (hS : St S w0 hp w) : SrcAt w A (n * 3) (t.flatMap enC) := by
  obtain ⟨rows, h1, h2, h3, h4⟩ := h.ex
  have e : rows.flatten = t.flatMap enC := by
    rw [List.flatMap_def]
    congr 1
    refine List.ext_getElem? fun i => ?_
    rw [List.getElem?_map]
    have hl := h.len
    cases hr : rows[i]? with
    | none =>
      rw [List.getElem?_eq_none_iff] at hr
      rw [List.getElem?_eq_none (by omega)]
      rfl
    | some r =>
      have hi := (List.getElem?_eq_some_iff.1 hr).1
      have hx : t[i]? = some t[i] := List.getElem?_eq_getElem (by omega)
      rw [hx]
      exact congrArg some (h4 i r _ hr hx).1
  rw [← e]
  exact roV_src (hS.ro h3)
theorem en_one (t : List EntryI) : ∀ u ∈ t.flatMap enC, u.oneCell' = true := fun u hu => by
  obtain ⟨c, _, hc⟩ := List.mem_flatMap.1 hu
  simp only [enC, List.mem_cons, List.not_mem_nil, or_false] at hc
  rcases hc with rfl | rfl | rfl <;> rfl
theorem row0_ent {S : Nat → Prop} {w0 w : World} {g : Nat} {F : List Asn} (h : St S w0 (blk g [] 44 :: F) w) : St S w0 (row 44 3 (.slice (some ⟨g, 0, none⟩) 0 0) 0 [] :: F) w :=
  h.see (i := 0) rfl (fun h => row_of_blk h 3 0 0 (Nat.le_refl _) (Nat.zero_le _) rfl [] rfl) (fun b hb => by injection hb with hb; exact hb.symm)
/-- First numbers, one list's tables behind the other's. -/
def setF (s : Nat) (l : ListI) : ListI := ⟨(s : Int), l.tabs, l.stim, l.ev, l.pre, l.pri, l.on, l.ch⟩
def firstsL : Nat → List ListI → List ListI
  | _, [] => []
  | s, l :: r => setF s l :: firstsL (s + l.tabs.length) r
def totT (ls : List ListI) : Nat := (ls.map (·.tabs.length)).sum
theorem firstsL_snoc : ∀ (s : Nat) (ls : List ListI) (l : ListI), firstsL s (ls ++ [l]) = firstsL s ls ++ [setF (s + totT ls) l]
  | s, [], l => by simp [firstsL, totT]
  | s, x :: r, l => by
    rw [List.cons_append, firstsL, firstsL_snoc, firstsL, List.cons_append]
    simp [totT, Nat.add_assoc]
theorem totT_snoc (ls : List ListI) (l : ListI) : totT (ls ++ [l]) = totT ls + l.tabs.length := by simp [totT]
theorem totT_le {ls : List ListI} (h : ∀ l ∈ ls, l.tabs.length ≤ 16) : totT ls ≤ 16 * ls.length := by
  induction ls with
  | nil => simp [totT]
  | cons x r ih =>
    have h1 := h x (by simp)
    have h2 := ih (fun l hl => h l (by simp [hl]))
    simp only [totT, List.map_cons, List.sum_cons, List.length_cons] at h2 ⊢
    omega
def ListsOut (ls : List ListI) (v : Value) (B : List Asn) : Prop := ∃ (A : Option Addr) (c : Nat) (ys : List LstV), v = .slice A ys.length c ∧ B = [row 27 8 (.slice A ys.length c) ys.length (ys.flatMap lstCells), starL (ys.map tblA)] ∧ ys.map (·.l) = firstsL 0 ls ∧ ys.length ≤ c ∧ c ≤ maxLen ∧ (0 < ys.length → ∃ g, A = some ⟨g, 0, none⟩)
theorem st_tbls {S : Nat → Prop} {w0 w : World} {ys : List LstV} {y : LstV} {F : List Asn} (h : St S w0 (tblA y :: starL (ys.map tblA) :: F) w) : St S w0 (starL ((ys ++ [y]).map tblA) :: F) w := by
  rw [List.map_append]
  exact st_snoc h
attribute [local irreducible] blk row bytesA starL memA segA roB otA entA
set_option maxHeartbeats 4000000 in
theorem eclone_spec {A : Option Addr} {n c : Nat} {t : List EntryI} {w : World} (ht : InS (fps []) w 3 InEntry A n t) (hn : n ≤ 1000) :
    Calls Try.prog 35 #[.slice A n c] w (Ret w [] fun v B => ∃ A' c', v = .slice A' t.length c' ∧ B = [entA (.slice A' t.length c') t]) := by
  have hlen := ht.len
  have hmx : maxLen = 2 ^ 63 - 1 := rfl
  refine enter (vs := [.slice A n c]) Try.func35 rfl Try.ntmps35 rfl (Hold.nil w) ?_
  cases A with
  | none =>
    have hn0 : n = 0 := by
      rcases Nat.eq_zero_or_pos n with h | h
      · exact h
      · obtain ⟨b, o, e⟩ := ht.addr (by omega)
        cases e
    subst hn0
    obtain rfl : t = [] := List.eq_nil_of_length_eq_zero hlen
    (repeat (first | (refine i_dst ?_; (first | (refine i_move ?_; refine l_q rfl rfl rfl (q_move rfl) ?_) | (refine i_assign ?_; refine l_q rfl rfl rfl (q_assign rfl) ?_) | (refine i_bin ?_; refine l_q rfl rfl rfl (by (exact q_eqsl tab rfl rfl rfl)) ?_))) | refine d_seq ?_ | refine c_region ?_ | refine l_nil ?_ | (refine i_q ?_; (first | refine d_then ?_ | refine d_then_ret ?_)) | refine c_ret ?_ | (refine i_cond ?_; (refine c_ct rfl (by (rfl)) ?_))))
    exact t_hp (fun w h => st_nil h 44 3) (t_ret1 Try.results35 rfl ⟨none, 0, rfl, by unfold entA; rfl⟩)
  | some a =>
    (repeat (first | (refine i_dst ?_; (first | (refine i_move ?_; refine l_q rfl rfl rfl (q_move rfl) ?_) | (refine i_assign ?_; refine l_q rfl rfl rfl (q_assign rfl) ?_) | (refine i_bin ?_; refine l_q rfl rfl rfl (by (exact q_eqsl tab rfl rfl rfl)) ?_) | (refine i_bldS ?_; refine l_bldS tab rfl rfl rfl rfl (by first | exact CellsOf.agg | exact CellsOf.one rfl) (by first | ((repeat (first | exact RepR.zero | exact AppR.nil | apply RepR.succ | apply AppR.cons)); done) | fail) (by first | ((repeat (first | exact FillR.nil | exact LSets.nil | exact LSet.zero | exact CellsOf.agg | exact rfl | exact CellsOf.one rfl | apply FillR.cons | apply LSets.cons | apply LSet.succ)); done) | fail) (fun w => by kernel_rfl) (fun _ => ?_)))) | refine d_seq ?_ | refine c_region ?_ | refine l_nil ?_ | (refine i_q ?_; (refine d_then ?_)) | refine c_skip ?_ | (refine i_cond ?_; (refine c_cf rfl (by (rfl)) ?_))))
    refine l_hp (fun w h => row0_ent h) ?_
    (refine l_app tab rfl rfl rfl rowEn (by first | ((repeat (first | exact Ext.head | apply Ext.tail)); done) | fail) (news := t.flatMap enC) (fun w h => ins_src ht h) (en_one t) (by omega) (by omega) (fun A2 c2 hA1 hA2 => ?_))
    (repeat (first | (refine i_dst ?_; ((refine i_assign ?_; refine l_q rfl rfl rfl (q_assign rfl) ?_))) | refine l_nil ?_ | (refine i_q ?_; (refine d_then ?_)) | refine c_ret ?_))
    have e0 : 0 + n = t.length := by omega
    rw [e0]
    exact t_ret1 Try.results35 rfl ⟨A2, c2, rfl, by unfold entA; rw [List.nil_append]⟩
end Go.Proofs.Ytboccjdncdaakaa

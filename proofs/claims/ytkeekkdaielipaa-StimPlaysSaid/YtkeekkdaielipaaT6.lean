/-
  The reference of layer 8: Clone, walked.
-/
import Derived.Test.YtkeekkdaielipaaR7
import Derived.Test.YtkeekkdaielipaaI2
set_option linter.unusedVariables false
set_option maxRecDepth 100000
namespace Go.Proofs.Ytkeekkdaielipaa
open Go.RowKit
attribute [local irreducible] TL TC TQ TK TO Qt TA

theorem row0_ofI {S : Nat → Prop} {w0 w : World} {g : Nat} {F : List Asn} (h : St S w0 (blk g [] 43 :: F) w) : St S w0 (row 43 2 (.slice (some ⟨g, 0, none⟩) 0 0) 0 [] :: F) w :=
  h.see (i := 0) rfl (fun h => row_of_blk h 2 0 0 (Nat.le_refl _) (Nat.zero_le _) rfl [] rfl) (fun b hb => by injection hb with hb; exact hb.symm)
theorem sees_one (l : List SegV) : ∀ u ∈ sees l, u.oneCell' = true := fun u hu => by
  rw [sees, List.mem_flatMap] at hu
  obtain ⟨s, _, hu⟩ := hu
  simp at hu
  rcases hu with rfl | rfl <;> rfl
theorem sees_eq {l l' : List SegV} (h : l.map (·.s) = l'.map (·.s)) : sees l = sees l' := by
  have e : ∀ l : List SegV, sees l = (l.map (·.s)).flatMap fun s => [.int .i64 s.s0, .int .i64 s.s1] := fun l => by
    induction l with
    | nil => rfl
    | cons s l ih =>
      rw [List.map_cons, List.flatMap_cons, ← ih]
      rfl
  rw [e, e, h]
attribute [local irreducible] blk row bytesA starL memA segA roB

attribute [local irreducible] refA rsegA sees refL

set_option maxHeartbeats 8000000 in
theorem rclone_spec {q : Nat} {x : RefV} {w : World} (hm : Ro (fps []) w (refA q x)) (hk : MmOk x.abs) :
    Calls Try.prog 58 #[.pointer (some ⟨q, 0, none⟩)] w (Ret w [] fun v B => ∃ q' y, v = .pointer (some ⟨q', 0, none⟩) ∧ B = [refA q' y] ∧ y.abs = x.abs) := by
  obtain ⟨⟨rv, ram, sv, segs⟩, ev⟩ := x
  refine enter (vs := [.pointer (some ⟨q, 0, none⟩)]) Try.func58 rfl Try.ntmps58 rfl (Hold.nil w) ?_
  obtain ⟨A, c, e1, hc1, hc2, -⟩ := row_slice hm.refRow.is
  obtain ⟨E, d, e2, hd1, hd2, -⟩ := row_slice hm.refSee.is
  obtain ⟨R, cr, e3, hr1, hr2, -⟩ := bytesA_ro hm.refRam.is
  dsimp only at e1 e2 e3
  subst e1 e2 e3
  have hb := hm.refBlk
  have hrow := hm.refRow.rowV1
  have hsee := hm.refSee.rowV
  have hram := hm.refRam.bytes
  have hrl : ram.length ≤ 1024 := hk.ram
  have hn4 : segs.length ≤ 4 := by have := hk.n4; simpa [RefV.abs, MemV.abs] using this
  dsimp only at hb hrow hsee hram
  have hmx : maxLen = 2 ^ 63 - 1 := rfl
  (repeat (first | (refine i_dst ?_; ((refine i_assign ?_; refine l_q rfl rfl rfl (q_assign rfl) ?_))) | refine d_seq ?_ | refine c_region ?_ | refine l_nil ?_ | (refine i_q ?_; (refine d_then ?_))))
  (refine a_begin mixed _ 15 rfl (fun w h => h) ?_)
  ((refine a_q 1 rfl rfl rfl rfl rfl (by decide +kernel) (q_move rfl) ?_; refine a_q 2 rfl rfl rfl rfl rfl (by decide +kernel) (by ((apply iq_nck; (exact q_nilck rfl)))) ?_; refine a_q 3 rfl rfl rfl rfl rfl (by decide +kernel) (by ((apply iq_fld; (exact q_fieldAddr tab rfl rfl rfl rfl rfl rfl rfl)))) ?_; (refine a_q 4 rfl rfl rfl rfl rfl (by decide +kernel) (by (exact q_ldRo tab rfl rfl rfl (by assumption) rfl)) ?_); refine a_q 7 rfl rfl rfl rfl rfl (by decide +kernel) (q_move rfl) ?_; refine a_q 8 rfl rfl rfl rfl rfl (by decide +kernel) (by ((apply iq_nck; (exact q_nilck rfl)))) ?_; refine a_q 9 rfl rfl rfl rfl rfl (by decide +kernel) (by ((apply iq_fld; (exact q_fieldAddr tab rfl rfl rfl rfl rfl rfl rfl)))) ?_; (refine a_q 10 rfl rfl rfl rfl rfl (by decide +kernel) (by (exact q_ldRo tab rfl rfl rfl (by assumption) rfl)) ?_)))
  refine a_join (α := Nat × Option Addr × Nat × Option Addr × Nat) (fun x' => [(0, .pointer (some ⟨q, 0, none⟩)), (3, .pointer (some ⟨x'.1, 0, none⟩))]) (fun x' => [blk x'.1 [.slice x'.2.1 ram.length x'.2.2.1, .slice none 0 0, .slice x'.2.2.2.1 segs.length x'.2.2.2.2] 97, row 5 1 (.slice x'.2.1 ram.length x'.2.2.1) ram.length (bv ram), row 43 2 (.slice x'.2.2.2.1 segs.length x'.2.2.2.2) segs.length (sees segs)]) ?_ (fun key => ?_)
  rotate_left
  · refine a_e2 0 6 rfl rfl (by decide +kernel) rfl rfl (fun K hK => e_bldS tab rfl rfl rfl rfl (by first | exact CellsOf.agg | exact CellsOf.one rfl) (by first | ((repeat (first | exact RepR.zero | exact AppR.nil | apply RepR.succ | apply AppR.cons)); done) | fail) (by first | ((repeat (first | exact FillR.nil | exact LSets.nil | exact LSet.zero | exact CellsOf.agg | exact rfl | exact CellsOf.one rfl | apply FillR.cons | apply LSets.cons | apply LSet.succ)); done) | fail) (fun w => by kernel_rfl) (fun g0 => hK _ _ (fun w h => h.subl (by first | ((repeat (first | exact SubL.nil | apply SubL.keep | apply SubL.skip)); done) | fail)) ?_)) (fun K hK => e_bldS tab rfl rfl rfl rfl (by first | exact CellsOf.agg | exact CellsOf.one rfl) (by first | ((repeat (first | exact RepR.zero | exact AppR.nil | apply RepR.succ | apply AppR.cons)); done) | fail) (by first | ((repeat (first | exact FillR.nil | exact LSets.nil | exact LSet.zero | exact CellsOf.agg | exact rfl | exact CellsOf.one rfl | apply FillR.cons | apply LSets.cons | apply LSet.succ)); done) | fail) (fun w => by kernel_rfl) (fun g6 => hK _ _ (fun w h => h.subl (by first | ((repeat (first | exact SubL.nil | apply SubL.keep | apply SubL.skip)); done) | fail)) ?_))
    · clear hK
      refine a_hp (fun w h => row0_of h) (fun w h => h.subl (by first | ((repeat (first | exact SubL.nil | apply SubL.keep | apply SubL.skip)); done) | fail)) ?_
      refine a_e2 5 6 rfl rfl (by decide +kernel) rfl rfl (fun K hK => e_app tab rfl rfl rfl rowB (by first | ((repeat (first | exact Ext.head | apply Ext.tail)); done) | fail) (news := bv ram) (fun w h => by rw [Nat.mul_one]; exact roB_src (h.ro hram)) (bv_one _) (by omega) (by omega) (fun A1 c1 hA1 hA2 => hK _ _ (fun w h => h.subl (by first | ((repeat (first | exact SubL.nil | apply SubL.keep | apply SubL.skip)); done) | fail)) ?_)) (fun K hK => e_bldS tab rfl rfl rfl rfl (by first | exact CellsOf.agg | exact CellsOf.one rfl) (by first | ((repeat (first | exact RepR.zero | exact AppR.nil | apply RepR.succ | apply AppR.cons)); done) | fail) (by first | ((repeat (first | exact FillR.nil | exact LSets.nil | exact LSet.zero | exact CellsOf.agg | exact rfl | exact CellsOf.one rfl | apply FillR.cons | apply LSets.cons | apply LSet.succ)); done) | fail) (fun w => by kernel_rfl) (fun g6 => hK _ _ (fun w h => h.subl (by first | ((repeat (first | exact SubL.nil | apply SubL.keep | apply SubL.skip)); done) | fail)) ?_))
      · clear hK
        rw [Nat.zero_add, List.nil_append]
        refine a_e 6 rfl (by decide +kernel) rfl (fun K hK => e_bldS tab rfl rfl rfl rfl (by first | exact CellsOf.agg | exact CellsOf.one rfl) (by first | ((repeat (first | exact RepR.zero | exact AppR.nil | apply RepR.succ | apply AppR.cons)); done) | fail) (by first | ((repeat (first | exact FillR.nil | exact LSets.nil | exact LSet.zero | exact CellsOf.agg | exact rfl | exact CellsOf.one rfl | apply FillR.cons | apply LSets.cons | apply LSet.succ)); done) | fail) (fun w => by kernel_rfl) (fun g6 => hK _ _ (fun w h => h.subl (by first | ((repeat (first | exact SubL.nil | apply SubL.keep | apply SubL.skip)); done) | fail)) ?_))
        clear hK
        refine a_hp (fun w h => row0_ofI h) (fun w h => h.subl (by first | ((repeat (first | exact SubL.nil | apply SubL.keep | apply SubL.skip)); done) | fail)) ?_
        refine a_e 11 rfl (by decide +kernel) rfl (fun K hK => e_app tab rfl rfl rfl row2I (by first | ((repeat (first | exact Ext.head | apply Ext.tail)); done) | fail) (news := sees segs) (fun w h => by exact roV_src (h.ro hsee)) (sees_one _) (by omega) (by omega) (fun A2 c2 hA1 hA2 => hK _ _ (fun w h => h.subl (by first | ((repeat (first | exact SubL.nil | apply SubL.keep | apply SubL.skip)); done) | fail)) ?_))
        clear hK
        rw [Nat.zero_add, List.nil_append]
        ((refine a_q 12 rfl rfl rfl rfl rfl (by decide +kernel) (by ((apply iq_bld; ((exact q_bld tab rfl rfl rfl (by first | ((repeat (first | exact FillR.nil | exact LSets.nil | exact LSet.zero | exact CellsOf.agg | exact rfl | exact CellsOf.one rfl | apply FillR.cons | apply LSets.cons | apply LSet.succ)); done) | fail) (fun w => by kernel_rfl)))))) ?_))
        refine a_e 13 rfl (by decide +kernel) rfl (fun K hK => e_box (l := [.slice A1 ram.length c1, .slice none 0 0, .slice A2 segs.length c2]) rfl rfl (by simp [Value.cells]) (fun q' => hK _ _ (fun w h => h.subl (by first | ((repeat (first | exact SubL.nil | apply SubL.keep | apply SubL.skip)); done) | fail)) ?_))
        clear hK
        ((refine a_q 14 rfl rfl rfl rfl rfl (by decide +kernel) (q_assign rfl) ?_))
        refine a_done (by decide +kernel) ?_
        exact t_sub (by first | ((repeat (first | exact trivial | exact rfl | apply Sub.cons | exact look_int rfl (by omega) | exact look_int rfl (by simp) | exact look_int rfl (by simp; omega))); done) | fail) (fun w h => h.psub (by first | ((repeat (first | exact PSub.nil | exact Ext.head | apply Ext.tail | apply PSub.cons)); done) | fail)) (key (q', A1, c1, A2, c2))
      · clear hK
        refine a_hp (fun w h => row0_ofI h) (fun w h => h.subl (by first | ((repeat (first | exact SubL.nil | apply SubL.keep | apply SubL.skip)); done) | fail)) ?_
        refine a_e 5 rfl (by decide +kernel) rfl (fun K hK => e_app tab rfl rfl rfl rowB (by first | ((repeat (first | exact Ext.head | apply Ext.tail)); done) | fail) (news := bv ram) (fun w h => by rw [Nat.mul_one]; exact roB_src (h.ro hram)) (bv_one _) (by omega) (by omega) (fun A1 c1 hA1 hA2 => hK _ _ (fun w h => h.subl (by first | ((repeat (first | exact SubL.nil | apply SubL.keep | apply SubL.skip)); done) | fail)) ?_))
        clear hK
        rw [Nat.zero_add, List.nil_append]
        refine a_e 11 rfl (by decide +kernel) rfl (fun K hK => e_app tab rfl rfl rfl row2I (by first | ((repeat (first | exact Ext.head | apply Ext.tail)); done) | fail) (news := sees segs) (fun w h => by exact roV_src (h.ro hsee)) (sees_one _) (by omega) (by omega) (fun A2 c2 hA1 hA2 => hK _ _ (fun w h => h.subl (by first | ((repeat (first | exact SubL.nil | apply SubL.keep | apply SubL.skip)); done) | fail)) ?_))
        clear hK
        rw [Nat.zero_add, List.nil_append]
        ((refine a_q 12 rfl rfl rfl rfl rfl (by decide +kernel) (by ((apply iq_bld; ((exact q_bld tab rfl rfl rfl (by first | ((repeat (first | exact FillR.nil | exact LSets.nil | exact LSet.zero | exact CellsOf.agg | exact rfl | exact CellsOf.one rfl | apply FillR.cons | apply LSets.cons | apply LSet.succ)); done) | fail) (fun w => by kernel_rfl)))))) ?_))
        refine a_e 13 rfl (by decide +kernel) rfl (fun K hK => e_box (l := [.slice A1 ram.length c1, .slice none 0 0, .slice A2 segs.length c2]) rfl rfl (by simp [Value.cells]) (fun q' => hK _ _ (fun w h => h.subl (by first | ((repeat (first | exact SubL.nil | apply SubL.keep | apply SubL.skip)); done) | fail)) ?_))
        clear hK
        ((refine a_q 14 rfl rfl rfl rfl rfl (by decide +kernel) (q_assign rfl) ?_))
        refine a_done (by decide +kernel) ?_
        exact t_sub (by first | ((repeat (first | exact trivial | exact rfl | apply Sub.cons | exact look_int rfl (by omega) | exact look_int rfl (by simp) | exact look_int rfl (by simp; omega))); done) | fail) (fun w h => h.psub (by first | ((repeat (first | exact PSub.nil | exact Ext.head | apply Ext.tail | apply PSub.cons)); done) | fail)) (key (q', A1, c1, A2, c2))
    · clear hK
      refine a_hp (fun w h => row0_ofI h) (fun w h => h.subl (by first | ((repeat (first | exact SubL.nil | apply SubL.keep | apply SubL.skip)); done) | fail)) ?_
      refine a_e 0 rfl (by decide +kernel) rfl (fun K hK => e_bldS tab rfl rfl rfl rfl (by first | exact CellsOf.agg | exact CellsOf.one rfl) (by first | ((repeat (first | exact RepR.zero | exact AppR.nil | apply RepR.succ | apply AppR.cons)); done) | fail) (by first | ((repeat (first | exact FillR.nil | exact LSets.nil | exact LSet.zero | exact CellsOf.agg | exact rfl | exact CellsOf.one rfl | apply FillR.cons | apply LSets.cons | apply LSet.succ)); done) | fail) (fun w => by kernel_rfl) (fun g0 => hK _ _ (fun w h => h.subl (by first | ((repeat (first | exact SubL.nil | apply SubL.keep | apply SubL.skip)); done) | fail)) ?_))
      clear hK
      refine a_hp (fun w h => row0_of h) (fun w h => h.subl (by first | ((repeat (first | exact SubL.nil | apply SubL.keep | apply SubL.skip)); done) | fail)) ?_
      refine a_e 5 rfl (by decide +kernel) rfl (fun K hK => e_app tab rfl rfl rfl rowB (by first | ((repeat (first | exact Ext.head | apply Ext.tail)); done) | fail) (news := bv ram) (fun w h => by rw [Nat.mul_one]; exact roB_src (h.ro hram)) (bv_one _) (by omega) (by omega) (fun A1 c1 hA1 hA2 => hK _ _ (fun w h => h.subl (by first | ((repeat (first | exact SubL.nil | apply SubL.keep | apply SubL.skip)); done) | fail)) ?_))
      clear hK
      rw [Nat.zero_add, List.nil_append]
      refine a_e 11 rfl (by decide +kernel) rfl (fun K hK => e_app tab rfl rfl rfl row2I (by first | ((repeat (first | exact Ext.head | apply Ext.tail)); done) | fail) (news := sees segs) (fun w h => by exact roV_src (h.ro hsee)) (sees_one _) (by omega) (by omega) (fun A2 c2 hA1 hA2 => hK _ _ (fun w h => h.subl (by first | ((repeat (first | exact SubL.nil | apply SubL.keep | apply SubL.skip)); done) | fail)) ?_))
      clear hK
      rw [Nat.zero_add, List.nil_append]
      ((refine a_q 12 rfl rfl rfl rfl rfl (by decide +kernel) (by ((apply iq_bld; ((exact q_bld tab rfl rfl rfl (by first | ((repeat (first | exact FillR.nil | exact LSets.nil | exact LSet.zero | exact CellsOf.agg | exact rfl | exact CellsOf.one rfl | apply FillR.cons | apply LSets.cons | apply LSet.succ)); done) | fail) (fun w => by kernel_rfl)))))) ?_))
      refine a_e 13 rfl (by decide +kernel) rfl (fun K hK => e_box (l := [.slice A1 ram.length c1, .slice none 0 0, .slice A2 segs.length c2]) rfl rfl (by simp [Value.cells]) (fun q' => hK _ _ (fun w h => h.subl (by first | ((repeat (first | exact SubL.nil | apply SubL.keep | apply SubL.skip)); done) | fail)) ?_))
      clear hK
      ((refine a_q 14 rfl rfl rfl rfl rfl (by decide +kernel) (q_assign rfl) ?_))
      refine a_done (by decide +kernel) ?_
      exact t_sub (by first | ((repeat (first | exact trivial | exact rfl | apply Sub.cons | exact look_int rfl (by omega) | exact look_int rfl (by simp) | exact look_int rfl (by simp; omega))); done) | fail) (fun w h => h.psub (by first | ((repeat (first | exact PSub.nil | exact Ext.head | apply Ext.tail | apply PSub.cons)); done) | fail)) (key (q', A1, c1, A2, c2))
  rintro ⟨q', A1, c1, A2, c2⟩
  dsimp only
  (repeat (first | (refine i_dst ?_; ((refine i_assign ?_; refine l_q rfl rfl rfl (q_assign rfl) ?_))) | refine d_seq ?_ | refine c_region ?_ | refine l_nil ?_ | refine c_block ?_ | (refine i_q ?_; (refine d_then ?_))))
  have hox : Oct ram := roB_oct hram.is
  refine d_loop (T := Value × List SegV) [0, 3] (fun t => [(4, .int .i64 t.2.length)]) [bytesA (.slice A1 ram.length c1) ram, row 43 2 (.slice A2 segs.length c2) segs.length (sees segs)]
    (fun t => [blk q' [.slice A1 ram.length c1, t.1, .slice A2 segs.length c2] 97, row 30 1 t.1 t.2.length (t.2.map (·.pv)), starL (t.2.map rsegA)])
    (fun t => t.2.length ≤ segs.length ∧ t.2.map (·.s) = (segs.map (·.s)).take t.2.length) (fun t => segs.length - t.2.length) (.slice none 0 0, []) (by first | ((repeat (first | exact Pick.nil | exact rfl | apply Pick.cons)); done) | fail) ⟨Nat.zero_le _, rfl⟩ (by first | ((repeat (first | exact trivial | exact rfl | apply Sub.cons | exact look_int rfl (by omega) | exact look_int rfl (by simp) | exact look_int rfl (by simp; omega))); done) | fail) (fun w h => ?_) ?_
  · have h1 := (h.ext (X := row 5 1 (.slice A1 ram.length c1) ram.length (bv ram)) (by first | ((repeat (first | exact Ext.head | apply Ext.tail)); done) | fail)).see (i := 0) (Y := bytesA (.slice A1 ram.length c1) ram) rfl (fun h => bytesA_of rfl hox h) (fun b hb => bytesA_rowS b hb)
    exact (st_nil (st_star0 h1) 30 1).psub (by first | ((repeat (first | exact PSub.nil | exact Ext.head | apply Ext.tail | apply PSub.cons)); done) | fail)
  rintro ⟨sv', segs'⟩ ⟨hk1, hk2⟩
  dsimp only at hk1 hk2 ⊢
  by_cases hlt : segs'.length < segs.length
  · obtain ⟨⟨sb, pv, pgs, sd⟩, hsk⟩ : ∃ s, segs[segs'.length]? = some s := ⟨_, List.getElem?_eq_getElem hlt⟩
    have hsR := hm.refSeg hsk
    have hsok := hk.segs sd (List.mem_of_getElem? (i := segs'.length) (by simp [RefV.abs, MemV.abs, hsk]))
    obtain ⟨Ap, cp, e2, hp1, hp2, -⟩ := row_slice hsR.rsegRow.is
    dsimp only at e2
    subst e2
    have hvk : (segs.map (·.pv))[segs'.length]? = some (.slice Ap pgs.length cp) := by simp [hsk]
    have hsr := hsR.rsegRow.rowV1
    have hsl := hsR.rsegLen
    dsimp only at hsr hsl
    have hn5 := hsok.n4
    (repeat (first | (refine i_dst ?_; (first | (refine i_move ?_; refine l_q rfl rfl rfl (q_move rfl) ?_) | (refine i_assign ?_; refine l_q rfl rfl rfl (q_assign rfl) ?_) | (refine i_load ?_; refine l_q rfl rfl rfl (by (exact q_ldRo tab rfl rfl rfl (by assumption) rfl)) ?_) | (refine i_bin ?_; refine l_q rfl rfl rfl (by (exact q_lss rfl rfl)) ?_) | (refine i_blt ?_; refine l_q rfl rfl rfl (by (exact q_len tab rfl rfl)) ?_) | (refine l_q rfl rfl rfl (by (first | (apply iq_fld; (exact q_fieldAddr tab rfl rfl rfl rfl rfl rfl rfl)) | (apply iq_nck; (exact q_nilck rfl)))) ?_))) | refine d_seq ?_ | refine c_region ?_ | refine l_nil ?_ | refine c_block ?_ | (refine i_q ?_; (refine d_then ?_)) | refine c_skip ?_ | (refine i_cond ?_; (refine c_ct rfl (by (exact decide_eq_true (by omega))) ?_))))
    refine d_loop (T := Value × List Value) [0, 3, 4] (fun t => [(6, .int .i64 t.2.length), (5, t.1)]) [blk q' [.slice A1 ram.length c1, sv', .slice A2 segs.length c2] 97, row 30 1 sv' segs'.length (segs'.map (·.pv)), starL (segs'.map rsegA), bytesA (.slice A1 ram.length c1) ram, row 43 2 (.slice A2 segs.length c2) segs.length (sees segs)]
      (fun t => [row 23 1 t.1 t.2.length t.2, starL (List.zipWith bytesA t.2 (sd.dat.take t.2.length))])
      (fun t => t.2.length ≤ pgs.length) (fun t => pgs.length - t.2.length) (.slice none 0 0, []) (by first | ((repeat (first | exact Pick.nil | exact rfl | apply Pick.cons)); done) | fail) (Nat.zero_le _) (by first | ((repeat (first | exact trivial | exact rfl | apply Sub.cons | exact look_int rfl (by omega) | exact look_int rfl (by simp) | exact look_int rfl (by simp; omega))); done) | fail) (fun w h => (st_nil (st_star0 h) 23 1).psub (by first | ((repeat (first | exact PSub.nil | exact Ext.head | apply Ext.tail | apply PSub.cons)); done) | fail)) ?_
    rintro ⟨pv', pgs'⟩ hj
    dsimp only at hj ⊢
    refine c_fact (p := ∃ A4 c4, pv' = .slice A4 pgs'.length c4) (fun w h => ?_) ?_
    · obtain ⟨A4, c4, e4, _⟩ := row_slice (h.get (i := 0) rfl)
      exact ⟨A4, c4, e4⟩
    rintro ⟨A4, c4, rfl⟩
    by_cases hjl : pgs'.length < pgs.length
    · obtain ⟨v, hv⟩ : ∃ v, pgs[pgs'.length]? = some v := ⟨_, List.getElem?_eq_getElem hjl⟩
      obtain ⟨l, hl⟩ : ∃ l, sd.dat[pgs'.length]? = some l := ⟨_, List.getElem?_eq_getElem (by omega)⟩
      have hpg := hsR.rsegPage hv hl
      obtain ⟨B3, c3, rfl, hq1, hq2, _⟩ := bytesA_ro hpg.is
      have hpb := hpg.bytes
      have hlo : Oct l := roB_oct hpb.is
      have hll : l.length ≤ 256 := by rw [hsok.len l (List.mem_of_getElem? hl)]; exact hsok.l2
      (repeat (first | (refine i_dst ?_; (first | (refine i_move ?_; refine l_q rfl rfl rfl (q_move rfl) ?_) | (refine i_load ?_; refine l_q rfl rfl rfl (by (first | exact q_ldRo tab rfl rfl rfl (by assumption) rfl | exact q_ldS tab rfl rfl rfl (by (exact fun w h => roV_src (h.ro (by assumption)))) (by (assumption)))) ?_) | (refine i_bin ?_; refine l_q rfl rfl rfl (by (exact q_lss rfl rfl)) ?_) | (refine i_blt ?_; refine l_q rfl rfl rfl (by (exact q_len tab rfl rfl)) ?_) | (refine i_ix ?_; refine l_q rfl rfl rfl (by (exact q_ixS1 tab rfl rfl rfl rfl (by (exact fun w h => roV_src (h.ro (by assumption)))) (by first | (with_reducible exact Int.toNat_natCast _) | (with_reducible exact Int.toNat_zero) | (with_reducible exact Int.toNat_one) | rfl) (by (omega)) (by (omega)))) ?_) | (refine i_bldS ?_; refine l_bldS tab rfl rfl rfl rfl (by first | exact CellsOf.agg | exact CellsOf.one rfl) (by first | ((repeat (first | exact RepR.zero | exact AppR.nil | apply RepR.succ | apply AppR.cons)); done) | fail) (by first | ((repeat (first | exact FillR.nil | exact LSets.nil | exact LSet.zero | exact CellsOf.agg | exact rfl | exact CellsOf.one rfl | apply FillR.cons | apply LSets.cons | apply LSet.succ)); done) | fail) (fun w => by kernel_rfl) (fun _ => ?_)) | (refine l_q rfl rfl rfl (by (first | (apply iq_fld; (exact q_fieldAddr tab rfl rfl rfl rfl rfl rfl rfl)) | (apply iq_nck; (exact q_nilck rfl)))) ?_))) | refine d_seq ?_ | refine c_region ?_ | refine l_nil ?_ | refine c_block ?_ | (refine i_q ?_; (refine d_then ?_)) | refine c_skip ?_ | (refine i_cond ?_; (refine c_ct rfl (by (exact decide_eq_true (by omega))) ?_))))
      rename_i g43
      refine l_hp (fun w h => row0_of (h.ext (X := blk g43 [] _) (by first | ((repeat (first | exact Ext.head | apply Ext.tail)); done) | fail))) ?_
      (refine l_app tab rfl rfl rfl rowB (by first | ((repeat (first | exact Ext.head | apply Ext.tail)); done) | fail) (news := bv l) (fun w h => by rw [Nat.mul_one]; exact roB_src (h.ro hpb)) (bv_one _) (by omega) (by omega) (fun A5 c5 hA1 hA2 => ?_))
      rw [Nat.zero_add, List.nil_append]
      (repeat ((refine i_dst ?_; ((refine i_bldS ?_; refine l_bldS tab rfl rfl rfl rfl (by first | exact CellsOf.agg | exact CellsOf.one rfl) (by first | ((repeat (first | exact RepR.zero | exact AppR.nil | apply RepR.succ | apply AppR.cons)); done) | fail) (by first | ((repeat (first | exact FillR.nil | exact LSets.nil | exact LSet.zero | exact CellsOf.agg | exact rfl | exact CellsOf.one rfl | apply FillR.cons | apply LSets.cons | apply LSet.succ)); done) | fail) (fun w => by kernel_rfl) (fun _ => ?_))))))
      rename_i g55
      (refine l_app tab rfl rfl rfl rowBB (by first | ((repeat (first | exact Ext.head | apply Ext.tail)); done) | fail) (news := [.slice A5 l.length c5]) (fun w h => SrcAt.blk (h.mem (X := blk g55 _ _) (by first | ((repeat (first | exact List.Mem.head _ | apply List.Mem.tail)); done) | fail)) rfl) (by simp [Value.oneCell']) (by omega) (by omega) (fun A6 c6 hA1 hA2 => ?_))
      (repeat (first | (refine i_dst ?_; (first | (refine i_move ?_; refine l_q rfl rfl rfl (q_move rfl) ?_) | (refine i_assign ?_; refine l_q rfl rfl rfl (q_assign rfl) ?_) | (refine i_bin ?_; refine l_q rfl rfl rfl (by (exact q_add rfl rfl (by (exact wr_i64 (by omega))))) ?_))) | refine c_region ?_ | refine l_nil ?_ | (refine i_q ?_; (first | refine d_then ?_ | refine t_then ?_ | refine t_block ?_))))
      refine k_again (.slice A6 (pgs'.length + 1) c6, pgs' ++ [.slice A5 l.length c5]) (by simp; omega) (by simp; omega) (by dsimp only; rw [List.length_append, List.length_singleton]; exact (by first | ((repeat (first | exact trivial | exact rfl | apply Sub.cons | exact look_int rfl (by omega) | exact look_int rfl (by simp) | exact look_int rfl (by simp; omega))); done) | fail)) (fun w h => ?_)
      have h0 := (h.ext (X := row 5 1 (.slice A5 l.length c5) l.length (bv l)) (by first | ((repeat (first | exact Ext.head | apply Ext.tail)); done) | fail)).see (i := 0) (Y := bytesA (.slice A5 l.length c5) l) rfl (fun h => bytesA_of rfl hlo h) (fun b hb => bytesA_rowS b hb)
      have h1 : St (fps []) _ (bytesA (.slice A5 l.length c5) l :: starL (List.zipWith bytesA pgs' (sd.dat.take pgs'.length)) :: [row 23 1 (.slice A6 (pgs'.length + 1) c6) (pgs'.length + 1) (pgs' ++ [.slice A5 l.length c5]), blk q' [.slice A1 ram.length c1, sv', .slice A2 segs.length c2] 97, row 30 1 sv' segs'.length (segs'.map (·.pv)), starL (segs'.map rsegA), bytesA (.slice A1 ram.length c1) ram, row 43 2 (.slice A2 segs.length c2) segs.length (sees segs)]) w := h0.psub (by first | ((repeat (first | exact PSub.nil | exact Ext.head | apply Ext.tail | apply PSub.cons)); done) | fail)
      have h2 := st_starS (by simp; omega) h1
      dsimp only
      rw [List.length_append, List.length_singleton, List.take_add_one, hl]
      exact h2.psub (by first | ((repeat (first | exact PSub.nil | exact Ext.head | apply Ext.tail | apply PSub.cons)); done) | fail)
    · have hjn : pgs'.length = pgs.length := by omega
      refine c_fact (p := ∃ As cs, sv' = .slice As segs'.length cs) (fun w h => ?_) ?_
      · obtain ⟨A4, c4, e4, _⟩ := row_slice (h.get (i := 3) rfl)
        exact ⟨A4, c4, e4⟩
      rintro ⟨As, cs, rfl⟩
      (repeat (first | (refine i_dst ?_; (first | (refine i_move ?_; refine l_q rfl rfl rfl (q_move rfl) ?_) | (refine i_load ?_; refine l_q rfl rfl rfl (by (first | exact q_ldRo tab rfl rfl rfl (by assumption) rfl | (exact q_ld1 tab rfl rfl rfl (by first | ((repeat (first | exact List.Mem.head _ | apply List.Mem.tail)); done) | fail) (by (rfl))) | exact q_ldS tab rfl rfl rfl (by (exact fun w h => roV_src (h.ro (by assumption)))) (by (assumption)))) ?_) | (refine i_bin ?_; refine l_q rfl rfl rfl (by (exact q_lss rfl rfl)) ?_) | (refine i_blt ?_; refine l_q rfl rfl rfl (by (exact q_len tab rfl rfl)) ?_) | (refine i_ix ?_; refine l_q rfl rfl rfl (by (exact q_ixS1 tab rfl rfl rfl rfl (by (exact fun w h => roV_src (h.ro (by assumption)))) (by first | (with_reducible exact Int.toNat_natCast _) | (with_reducible exact Int.toNat_zero) | (with_reducible exact Int.toNat_one) | rfl) (by (omega)) (by (omega)))) ?_) | (refine i_bldS ?_; refine l_bldS tab rfl rfl rfl rfl (by first | exact CellsOf.agg | exact CellsOf.one rfl) (by first | ((repeat (first | exact RepR.zero | exact AppR.nil | apply RepR.succ | apply AppR.cons)); done) | fail) (by first | ((repeat (first | exact FillR.nil | exact LSets.nil | exact LSet.zero | exact CellsOf.agg | exact rfl | exact CellsOf.one rfl | apply FillR.cons | apply LSets.cons | apply LSet.succ)); done) | fail) (fun w => by kernel_rfl) (fun _ => ?_)) | (refine l_q rfl rfl rfl (by (first | (apply iq_fld; (exact q_fieldAddr tab rfl rfl rfl rfl rfl rfl rfl)) | (apply iq_nck; (exact q_nilck rfl)))) ?_))) | refine d_seq ?_ | refine c_region ?_ | refine l_nil ?_ | (refine i_q ?_; (first | refine d_then ?_ | refine d_then_exit ?_ | refine t_then_exit ?_ | refine t_block_eq rfl ?_)) | refine c_exit ?_ | (refine i_cond ?_; (refine c_cf rfl (by (exact decide_eq_false (by omega))) ?_))))
      rename_i g63
      (refine l_app tab rfl rfl rfl rowBBB (by first | ((repeat (first | exact Ext.head | apply Ext.tail)); done) | fail) (news := [.slice A4 pgs'.length c4]) (fun w h => SrcAt.blk (h.mem (X := blk g63 _ _) (by first | ((repeat (first | exact List.Mem.head _ | apply List.Mem.tail)); done) | fail)) rfl) (by simp [Value.oneCell']) (by omega) (by omega) (fun A6 c6 hA1 hA2 => ?_))
      (repeat (first | (refine i_dst ?_; (first | (refine i_move ?_; refine l_q rfl rfl rfl (q_move rfl) ?_) | (refine i_assign ?_; refine l_q rfl rfl rfl (q_assign rfl) ?_) | (refine i_bin ?_; refine l_q rfl rfl rfl (by (exact q_add rfl rfl (by (exact wr_i64 (by omega))))) ?_) | (refine l_q rfl rfl rfl (by (first | (apply iq_fld; (exact q_fieldAddr tab rfl rfl rfl rfl rfl rfl rfl)) | (apply iq_nck; (exact q_nilck rfl)))) ?_))) | refine c_region ?_ | refine l_nil ?_ | (refine i_q ?_; (first | refine d_then ?_ | refine t_then ?_ | refine t_block ?_)) | (refine i_store ?_; ((refine l_set tab rfl rfl rfl rfl (by first | ((repeat (first | exact Upd.head | apply Upd.tail)); done) | fail) (by first | ((repeat (first | exact LSet.zero | apply LSet.succ)); done) | fail) ?_)))))
      refine k_again (.slice A6 (segs'.length + 1) c6, segs' ++ [⟨0, .slice A4 pgs'.length c4, pgs', sd⟩]) ⟨by simp; omega, ?_⟩ (by simp; omega) (by dsimp only; rw [List.length_append, List.length_singleton]; exact (by first | ((repeat (first | exact trivial | exact rfl | apply Sub.cons | exact look_int rfl (by omega) | exact look_int rfl (by simp) | exact look_int rfl (by simp; omega))); done) | fail)) (fun w h => ?_)
      · dsimp only
        rw [List.map_append, hk2, List.length_append, List.length_singleton, List.take_add_one, List.getElem?_map, hsk]
        rfl
      rw [List.take_of_length_le (by omega)] at h
      have h1 := rsegA_mk (s := ⟨0, .slice A4 pgs'.length c4, pgs', sd⟩) (F := [starL (segs'.map rsegA), blk q' [.slice A1 ram.length c1, .slice A6 (segs'.length + 1) c6, .slice A2 segs.length c2] 97, row 30 1 (.slice A6 (segs'.length + 1) c6) (segs'.length + 1) (segs'.map (·.pv) ++ [.slice A4 pgs'.length c4]), bytesA (.slice A1 ram.length c1) ram, row 43 2 (.slice A2 segs.length c2) segs.length (sees segs)]) ((st_pure (p := pgs'.length = sd.dat.length) (by omega) h).psub (by first | ((repeat (first | exact PSub.nil | exact Ext.head | apply Ext.tail | apply PSub.cons)); done) | fail))
      have h3 := st_snoc h1
      dsimp only
      rw [List.length_append, List.length_singleton, List.map_append, List.map_append]
      exact h3.psub (by first | ((repeat (first | exact PSub.nil | exact Ext.head | apply Ext.tail | apply PSub.cons)); done) | fail)
  · have hkn : segs'.length = segs.length := by omega
    have hms : segs'.map (·.s) = segs.map (·.s) := by rw [hk2, List.take_of_length_le (by simp; omega)]
    (repeat (first | (refine i_dst ?_; (first | (refine i_move ?_; refine l_q rfl rfl rfl (q_move rfl) ?_) | (refine i_assign ?_; refine l_q rfl rfl rfl (q_assign rfl) ?_) | (refine i_load ?_; refine l_q rfl rfl rfl (by (exact q_ldRo tab rfl rfl rfl (by assumption) rfl)) ?_) | (refine i_bin ?_; refine l_q rfl rfl rfl (by (exact q_lss rfl rfl)) ?_) | (refine i_blt ?_; refine l_q rfl rfl rfl (by (exact q_len tab rfl rfl)) ?_) | (refine l_q rfl rfl rfl (by (first | (apply iq_fld; (exact q_fieldAddr tab rfl rfl rfl rfl rfl rfl rfl)) | (apply iq_nck; (exact q_nilck rfl)))) ?_))) | refine d_seq ?_ | refine c_region ?_ | refine l_nil ?_ | (refine i_q ?_; (first | refine d_then ?_ | refine d_then_exit ?_ | refine t_then_exit ?_ | refine t_block_eq rfl ?_)) | refine c_exit ?_ | refine c_ret ?_ | (refine i_cond ?_; (refine c_cf rfl (by (exact decide_eq_false (by omega))) ?_))))
    refine t_hp (hp' := [refA q' ⟨⟨.slice A1 ram.length c1, ram, sv', segs'⟩, .slice A2 segs.length c2⟩]) (fun w h => refA_mk ?_) (t_ret1 Try.results58 rfl ⟨q', _, rfl, rfl, ?_⟩)
    · dsimp only
      rw [sees_eq hms, hkn]
      rw [hkn] at h
      exact h.psub (by first | ((repeat (first | exact PSub.nil | exact Ext.head | apply Ext.tail | apply PSub.cons)); done) | fail)
    · simp only [RefV.abs, MemV.abs]
      rw [hms]
end Go.Proofs.Ytkeekkdaielipaa

/-
  Layer 8: MemOwn, walked.
-/
import Derived.Test.YtecnodkjjpjglaaL7
import Derived.Test.YtecnodkjjpjglaaL9
set_option linter.unusedVariables false
set_option maxRecDepth 100000
namespace Go.Proofs.Ytecnodkjjpjglaa
open Go.RowKit
attribute [local irreducible] TL TC TQ TK TO Qt TA

attribute [local irreducible] blk row bytesA starL memA segA roB


theorem ram_read {M : Mm} {n : Nat} (h : M.ram.length = n) : readM M 1 0 0 n = (M.ram, 0) := read_all (f := false) (.inl rfl) rfl h

set_option maxHeartbeats 8000000 in
theorem memOwn_walk (v : Value) (x : MapI) (W : World) (hx : InMap (fps []) W v x) (A : Option Addr) (n c : Nat) (acts : List ActI) (ha : InS (fps []) W 7 (InAct (fps []) W) A n acts) (hnc : n ≤ c) (hcm : c ≤ maxLen) :
    Calls Try.prog 10 #[v, .slice A n c] W (Ret W [] fun v _ => v = .bool true) := by
  obtain ⟨A0, c0, A0', n0', c0', hv, hq0⟩ := hx.is
  clear hq0
  subst hv
  refine enter (vs := [.agg #[.int .i64 x.ram, .slice A0 x.segs.length c0, .slice A0' n0' c0'], .slice A n c]) Try.func10 rfl Try.ntmps10 rfl (Hold.nil W) ?_
  have hmx : maxLen = 2 ^ 63 - 1 := rfl
  (repeat (first | (refine i_dst ?_; (first | (refine i_assign ?_; refine l_q rfl rfl rfl (q_assign rfl) ?_) | (refine i_box ?_; (refine l_boxA rfl rfl (fun _ => ?_))))) | refine d_seq ?_ | refine c_region ?_ | refine l_nil ?_ | (refine i_q ?_; (refine d_then ?_))))
  (refine l_call0 rfl rfl Try.func13 rfl (by decide) (fun w' h => shown_spec w') (fun v B hv => ?_); obtain ⟨rfl, rfl⟩ := hv)
  (repeat (first | (refine i_dst ?_; (first | (refine i_assign ?_; refine l_q rfl rfl rfl (q_assign rfl) ?_) | (refine i_load ?_; refine l_q rfl rfl rfl (by ((exact q_ldN tab rfl rfl rfl rfl (by first | ((repeat (first | exact List.Mem.head _ | apply List.Mem.tail)); done) | fail) (by first | ((repeat (first | exact TakeR.nil | apply TakeR.cons | apply CutR.zero | apply CutR.skip)); done) | fail)))) ?_))) | refine d_seq ?_ | refine c_region ?_ | refine l_nil ?_ | (refine i_q ?_; (refine d_then ?_))))
  (refine l_call0 rfl rfl Try.func24 rfl (by decide) (fun w' h => good_spec _ x w' (hx.to0 h)) (fun v B hv => ?_); obtain ⟨A1, c1, rfl, hc1, hc2, rfl⟩ := hv)
  (repeat (first | (refine i_dst ?_; (first | (refine i_load ?_; refine l_q rfl rfl rfl (by ((exact q_ldN tab rfl rfl rfl rfl (by first | ((repeat (first | exact List.Mem.head _ | apply List.Mem.tail)); done) | fail) (by first | ((repeat (first | exact TakeR.nil | apply TakeR.cons | apply CutR.zero | apply CutR.skip)); done) | fail)))) ?_) | (refine i_alloc ?_; (refine l_allocA tab rfl rfl (fun _ => ?_))))) | refine d_seq ?_ | refine c_region ?_ | refine l_nil ?_ | (refine i_q ?_; (refine d_then ?_)) | (refine i_store ?_; ((refine l_setN tab rfl rfl rfl rfl (List.cons_ne_nil _ _) rfl (by first | ((repeat (first | exact Upd.head | apply Upd.tail)); done) | fail) (by first | ((repeat (first | exact LSets.nil | exact LSet.zero | apply LSets.cons | apply LSet.succ)); done) | fail) ?_)))))
  rename_i b2 b6
  have hsl : (goodM x).segs.length ≤ 4 := (good_ok x).2.2.1
  have hrm : 8 ≤ (goodM x).ram ∧ (goodM x).ram ≤ 64 := by simp only [goodM]; omega
  (refine l_call0 rfl rfl Try.func14 rfl (by decide) (fun w' h => new_spec _ (goodM x) w' (InMap.good (h.get (i := 1) rfl) hc1 hc2)) (fun v B hv => ?_); obtain ⟨_, p, m, rfl, rfl, hm⟩ | ⟨hno, _⟩ := hv)
  rotate_left
  · exact absurd (good_ok x) hno
  have hM : MmOk m.abs := by rw [hm]; exact newM_ok (good_ok x)
  obtain ⟨rn, hrn⟩ : ∃ rn : Nat, (goodM x).ram = rn := ⟨(goodM x).ram.toNat, by omega⟩
  rw [hrn] at hrm
  have hrl : m.abs.ram.length = rn := by rw [hm]; simp [newM, hrn]
  have hro : Oct m.abs.ram := by rw [hm]; exact Oct.zeros _
  have hrd := ram_read hrl
  rw [hrn]
  (repeat (first | (refine i_dst ?_; (first | (refine i_move ?_; refine l_q rfl rfl rfl (q_move rfl) ?_) | (refine i_assign ?_; refine l_q rfl rfl rfl (q_assign rfl) ?_) | (refine i_load ?_; refine l_q rfl rfl rfl (by ((exact q_ld1 tab rfl rfl rfl (by first | ((repeat (first | exact List.Mem.head _ | apply List.Mem.tail)); done) | fail) (by (rfl))))) ?_) | (refine i_bin ?_; refine l_q rfl rfl rfl (by (first | exact q_neq rfl rfl | exact q_eqnil tab rfl rfl rfl)) ?_) | (refine l_q rfl rfl rfl (by (first | exact q_extract rfl rfl | (apply iq_fld; (exact q_fieldAddr tab rfl rfl rfl rfl rfl rfl rfl)) | exact q_pick_f rfl rfl)) ?_))) | refine d_seq ?_ | refine c_region ?_ | refine l_nil ?_ | (refine i_q ?_; (refine d_then ?_)) | refine c_skip ?_ | (refine i_guard ?_; (refine l_gt rfl rfl rfl ?_)) | (refine i_cond ?_; (refine c_cf rfl (by (rfl)) ?_))))
  (refine l_call0 rfl rfl Try.func26 rfl (by decide) (fun w' h => read_spec (roHp0 h (i := 0) rfl) hM 1 0 0 rn (by omega) (by omega) (by omega) (by omega) (by omega)) (fun v B hv => ?_); obtain ⟨A4, c4, rfl, rfl⟩ := hv)
  rw [hrd]
  dsimp only
  rw [hrl]
  (repeat (first | (refine i_dst ?_; (first | (refine i_move ?_; refine l_q rfl rfl rfl (q_move rfl) ?_) | (refine i_assign ?_; refine l_q rfl rfl rfl (q_assign rfl) ?_) | refine l_q rfl rfl rfl (by (exact q_extract rfl rfl)) ?_)) | refine d_seq ?_ | refine c_region ?_ | refine l_nil ?_ | (refine i_q ?_; (refine d_then ?_))))
  (refine l_call0 rfl rfl Try.func37 rfl (by decide) (fun w' h => mclone_spec (roHp0 h (i := 1) rfl) hM) (fun v B hv => ?_); obtain ⟨p2, m2, rfl, rfl, hm2⟩ := hv)
  have hM2 : MmOk m2.abs := by rw [hm2]; exact hM
  (repeat (first | (refine i_dst ?_; (first | (refine i_move ?_; refine l_q rfl rfl rfl (q_move rfl) ?_) | (refine i_assign ?_; refine l_q rfl rfl rfl (q_assign rfl) ?_))) | refine d_seq ?_ | refine c_region ?_ | refine l_nil ?_ | (refine i_q ?_; (refine d_then ?_))))
  (refine l_call0 rfl rfl Try.func16 rfl (by decide) (fun w' h => few_spec A n c w' hnc hcm) (fun v B hv => ?_); obtain ⟨rfl, rfl⟩ := hv)
  (repeat (first | (refine i_dst ?_; (first | (refine i_move ?_; refine l_q rfl rfl rfl (q_move rfl) ?_) | (refine i_blt ?_; refine l_q rfl rfl rfl (by (exact q_len tab rfl rfl)) ?_))) | refine l_nil ?_ | refine c_block ?_ | (refine i_q ?_; (refine d_then ?_))))
  refine d_loop (T := Nat × MemV) [5, 6, 7, 9, 10, 11, 48, 49] (fun t => [(50, .int .i64 t.1)]) [bytesA (.slice A4 rn c4) m.abs.ram, memA p m, blk b6 [.int .i64 rn, .slice A1 (goodM x).segs.length c1, .slice none 0 0] 25]
    (fun t => [memA p2 t.2]) (fun t => t.1 ≤ min n 60 ∧ MmOk t.2.abs) (fun t => min n 60 - t.1) (0, m2) (by first | ((repeat (first | exact Pick.nil | exact rfl | apply Pick.cons)); done) | fail) ⟨Nat.zero_le _, hM2⟩ (by first | ((repeat (first | exact trivial | exact rfl | apply Sub.cons | exact look_int rfl (by omega) | exact look_int rfl (by simp) | exact look_int rfl (by simp; omega))); done) | fail) (fun w h => h.pick [0, 1, 2, 3] rfl) ?_
  clear hm2 hM2 m2
  rintro ⟨k, m2⟩ ⟨hk, hkm⟩
  dsimp only at hk hkm ⊢
  by_cases hlt : k < min n 60
  · obtain ⟨a, hak⟩ : ∃ a, acts[k]? = some a := ⟨_, List.getElem?_eq_getElem (by rw [ha.len]; omega)⟩
    obtain ⟨bA, oA, r, rfl, hrl, hra, hcell⟩ := ha.get (by omega) hak
    obtain ⟨Aa, ka, ca, rfl, _⟩ := hra.is
    (repeat (first | (refine i_dst ?_; (first | (refine i_move ?_; refine l_q rfl rfl rfl (q_move rfl) ?_) | (refine i_load ?_; refine l_q rfl rfl rfl (by (first | (exact q_ldN tab rfl rfl rfl rfl (by first | ((repeat (first | exact List.Mem.head _ | apply List.Mem.tail)); done) | fail) (by first | ((repeat (first | exact TakeR.nil | apply TakeR.cons | apply CutR.zero | apply CutR.skip)); done) | fail)) | exact q_ldcN tab rfl rfl rfl rfl (by assumption) rfl)) ?_) | (refine i_bin ?_; refine l_q rfl rfl rfl (by (exact q_lss rfl rfl)) ?_) | (refine i_ix ?_; refine l_q rfl rfl rfl (by (exact q_indexAddr tab rfl rfl rfl rfl (by omega))) ?_) | (refine i_alloc ?_; (refine l_allocA tab rfl rfl (fun _ => ?_))))) | refine d_seq ?_ | refine c_region ?_ | refine l_nil ?_ | refine c_block ?_ | (refine i_q ?_; (refine d_then ?_)) | refine c_skip ?_ | (refine i_store ?_; ((refine l_setN tab rfl rfl rfl rfl (List.cons_ne_nil _ _) rfl (by first | ((repeat (first | exact Upd.head | apply Upd.tail)); done) | fail) (by first | ((repeat (first | exact LSets.nil | exact LSet.zero | apply LSets.cons | apply LSet.succ)); done) | fail) ?_))) | (refine i_cond ?_; (refine c_ct rfl (by (exact decide_eq_true (by omega))) ?_))))
    (refine l_call1 (X := memA p2 m2) (by first | ((repeat (first | exact Ext.head | apply Ext.tail)); done) | fail) rfl rfl Try.func17 rfl (by decide) (fun w' h => does_spec h.split hkm _ a (hra.to (fun r hr => h.roOf hr (fun X hX => by simp at hX; simp [hX])))) (fun v B hv => ?_); obtain ⟨m', A', c', rfl, rfl, hm'⟩ := hv)
    (repeat (first | (refine i_dst ?_; (first | (refine i_move ?_; refine l_q rfl rfl rfl (q_move rfl) ?_) | (refine i_bin ?_; refine l_q rfl rfl rfl (by (exact q_add rfl rfl (by (exact wr_i64 (by omega))))) ?_))) | refine c_region ?_ | refine l_nil ?_ | (refine i_q ?_; (first | refine d_then ?_ | refine t_then ?_ | refine t_block ?_))))
    refine k_again (k + 1, m') ⟨by dsimp only; omega, by rw [hm']; exact doesM_ok hkm⟩ (by dsimp only; omega) (by first | ((repeat (first | exact trivial | exact rfl | apply Sub.cons | exact look_int rfl (by omega) | exact look_int rfl (by simp) | exact look_int rfl (by simp; omega))); done) | fail) (fun w h => h.pick [0, 3, 4, 5] rfl)
  · (repeat (first | (refine i_dst ?_; (first | (refine i_move ?_; refine l_q rfl rfl rfl (q_move rfl) ?_) | (refine i_load ?_; refine l_q rfl rfl rfl (by ((exact q_ld1 tab rfl rfl rfl (by first | ((repeat (first | exact List.Mem.head _ | apply List.Mem.tail)); done) | fail) (by (rfl))))) ?_) | (refine i_bin ?_; refine l_q rfl rfl rfl (by (exact q_lss rfl rfl)) ?_) | (refine l_q rfl rfl rfl (by ((apply iq_fld; (exact q_fieldAddr tab rfl rfl rfl rfl rfl rfl rfl)))) ?_))) | refine d_seq ?_ | refine c_region ?_ | refine l_nil ?_ | (refine i_q ?_; (first | refine d_then ?_ | refine d_then_exit ?_ | refine t_then_exit ?_ | refine t_block_eq rfl ?_)) | refine c_exit ?_ | (refine i_cond ?_; (refine c_cf rfl (by (exact decide_eq_false (by omega))) ?_))))
    (refine l_call0 rfl rfl Try.func26 rfl (by decide) (fun w' h => read_spec (roHp0 h (i := 2) rfl) hM 1 0 0 rn (by omega) (by omega) (by omega) (by omega) (by omega)) (fun v B hv => ?_); obtain ⟨A5, c5, rfl, rfl⟩ := hv)
    rw [hrd]
    dsimp only
    rw [hrl]
    (repeat (first | (refine i_dst ?_; (first | (refine i_move ?_; refine l_q rfl rfl rfl (q_move rfl) ?_) | (refine i_assign ?_; refine l_q rfl rfl rfl (q_assign rfl) ?_) | (refine i_load ?_; refine l_q rfl rfl rfl (by ((exact q_ld1 tab rfl rfl rfl (by first | ((repeat (first | exact List.Mem.head _ | apply List.Mem.tail)); done) | fail) (by (rfl))))) ?_) | (refine i_bin ?_; refine l_q rfl rfl rfl (by (first | exact q_neq rfl rfl | exact q_nes rfl rfl)) ?_) | (refine i_blt ?_; refine l_q rfl rfl rfl (by (exact q_len tab rfl rfl)) ?_) | (refine l_q rfl rfl rfl (by (first | exact q_extract rfl rfl | (apply iq_fld; (exact q_fieldAddr tab rfl rfl rfl rfl rfl rfl rfl)) | (apply iq_cv; ((exact q_str tab rfl rfl rfl rfl (fun w h => roB_of (h.mem (by first | ((repeat (first | exact List.Mem.head _ | apply List.Mem.tail)); done) | fail)))))) | exact q_pick_f rfl rfl)) ?_))) | refine d_seq ?_ | refine c_region ?_ | refine l_nil ?_ | refine c_block ?_ | (refine i_q ?_; (refine d_then ?_)) | refine c_skip ?_ | (refine i_guard ?_; (first | refine l_gt rfl rfl rfl ?_ | (refine l_gtd rfl rfl rfl (by (((first | (simp; done) | fail)))) ?_))) | (refine i_cond ?_; ((refine c_cf rfl (by (((first | (simp; done) | fail)))) ?_)))))
    refine c_ex (p := fun y : Nat × List Value => A5 = some ⟨y.1, 0, none⟩ ∧ (bv m.abs.ram ++ y.2).length = c5) (hp' := fun y => [blk y.1 (bv m.abs.ram ++ y.2) 5, bytesA (.slice A4 rn c4) m.abs.ram, memA p m, blk b6 [.int .i64 rn, .slice A1 (goodM x).segs.length c1, .slice none 0 0] 25]) (fun w h => ?_) ?_
    · obtain ⟨y, ⟨y1, y2, y3, y4, y5, y6⟩, y7⟩ := bytesA_open (i := 0) h rfl (by omega)
      exact ⟨y, ⟨y1, y5⟩, y7.pick [0, 2, 3, 4] rfl⟩
    rintro ⟨g, junk⟩ ⟨rfl, hj⟩
    dsimp only at hj ⊢
    refine d_loop (T := Nat × List Value) [5, 6, 7, 9, 14, 86] (fun t => [(87, .int .i64 t.1)]) [bytesA (.slice A4 rn c4) m.abs.ram, memA p m, blk b6 [.int .i64 rn, .slice A1 (goodM x).segs.length c1, .slice none 0 0] 25]
      (fun t => [blk g t.2 5]) (fun t => t.1 ≤ rn ∧ ∀ i, i < rn → ∃ y : Int, t.2[i]? = some (.int .u8 y)) (fun t => rn - t.1) (0, bv m.abs.ram ++ junk) (by first | ((repeat (first | exact Pick.nil | exact rfl | apply Pick.cons)); done) | fail) ⟨Nat.zero_le _, fun i hi => ⟨_, by rw [List.getElem?_append_left (by rw [length_bv]; omega)]; exact bv_get (by omega)⟩⟩ (by first | ((repeat (first | exact trivial | exact rfl | apply Sub.cons | exact look_int rfl (by omega) | exact look_int rfl (by simp) | exact look_int rfl (by simp; omega))); done) | fail) (fun w h => h) ?_
    clear hlt hk hkm k
    rintro ⟨k, vs⟩ ⟨hk, hvs⟩
    dsimp only at hk hvs ⊢
    by_cases hlt : k < rn
    · obtain ⟨y, hy⟩ := hvs k hlt
      have hvl : k < vs.length := (List.getElem?_eq_some_iff.1 hy).1
      have hy' : vs[0 + ((k : Nat) : Int).toNat]? = some (.int .u8 y) := by rw [Int.toNat_natCast, Nat.zero_add]; exact hy
      (repeat (first | (refine i_dst ?_; (first | (refine i_move ?_; refine l_q rfl rfl rfl (q_move rfl) ?_) | (refine i_assign ?_; refine l_q rfl rfl rfl (q_assign rfl) ?_) | (refine i_load ?_; refine l_q rfl rfl rfl (by ((exact q_ld1 tab rfl rfl rfl (by first | ((repeat (first | exact List.Mem.head _ | apply List.Mem.tail)); done) | fail) (by (assumption))))) ?_) | (refine i_bin ?_; refine l_q rfl rfl rfl (by (first | exact q_lss rfl rfl | exact q_add rfl rfl (by (first | exact wr_i64 (by omega) | rfl)))) ?_) | (refine i_ix ?_; refine l_q rfl rfl rfl (by (exact q_indexAddr1 tab rfl rfl rfl rfl (by omega))) ?_))) | refine d_seq ?_ | refine c_region ?_ | refine l_nil ?_ | refine c_block ?_ | (refine i_q ?_; (first | refine d_then ?_ | refine t_then ?_ | refine t_block ?_)) | refine c_skip ?_ | (refine i_store ?_; ((refine l_setI tab rfl rfl rfl rfl (by first | ((repeat (first | exact Upd.head | apply Upd.tail)); done) | fail) (by (omega)) ?_))) | (refine i_cond ?_; (refine c_ct rfl (by (exact decide_eq_true (by omega))) ?_))))
      refine k_again (k + 1, _) ⟨by dsimp only; omega, fun i hi => ?_⟩ (by dsimp only; omega) (by first | ((repeat (first | exact trivial | exact rfl | apply Sub.cons | exact look_int rfl (by omega) | exact look_int rfl (by simp) | exact look_int rfl (by simp; omega))); done) | fail) (fun w h => h)
      dsimp only
      rw [Int.toNat_natCast, Nat.zero_add]
      by_cases e : k = i
      · subst e
        exact ⟨_, List.getElem?_set_self hvl⟩
      · rw [List.getElem?_set_ne e]
        exact hvs i hi
    · (repeat (first | (refine i_dst ?_; (first | (refine i_move ?_; refine l_q rfl rfl rfl (q_move rfl) ?_) | (refine i_load ?_; refine l_q rfl rfl rfl (by ((exact q_ld1 tab rfl rfl rfl (by first | ((repeat (first | exact List.Mem.head _ | apply List.Mem.tail)); done) | fail) (by (rfl))))) ?_) | (refine i_bin ?_; refine l_q rfl rfl rfl (by (exact q_lss rfl rfl)) ?_) | (refine l_q rfl rfl rfl (by ((apply iq_fld; (exact q_fieldAddr tab rfl rfl rfl rfl rfl rfl rfl)))) ?_))) | refine d_seq ?_ | refine c_region ?_ | refine l_nil ?_ | (refine i_q ?_; (first | refine d_then ?_ | refine d_then_exit ?_ | refine t_then_exit ?_ | refine t_block_eq rfl ?_)) | refine c_exit ?_ | (refine i_cond ?_; (refine c_cf rfl (by (exact decide_eq_false (by omega))) ?_))))
      (refine l_call0 rfl rfl Try.func26 rfl (by decide) (fun w' h => read_spec (roHp0 h (i := 2) rfl) hM 1 0 0 rn (by omega) (by omega) (by omega) (by omega) (by omega)) (fun v B hv => ?_); obtain ⟨A6, c6, rfl, rfl⟩ := hv)
      rw [hrd]
      dsimp only
      rw [hrl]
      (repeat (first | (refine i_dst ?_; (first | (refine i_move ?_; refine l_q rfl rfl rfl (q_move rfl) ?_) | (refine i_assign ?_; refine l_q rfl rfl rfl (q_assign rfl) ?_) | refine l_q rfl rfl rfl (by (exact q_extract rfl rfl)) ?_)) | refine d_seq ?_ | refine c_region ?_ | refine l_nil ?_ | (refine i_q ?_; (refine d_then ?_))))
      (refine l_call0 rfl rfl Try.func26 rfl (by decide) (fun w' h => read_nil w' 1 0 0 0) (fun v B hv => ?_); obtain ⟨A7, c7, rfl, rfl⟩ := hv)
      (repeat (first | (refine i_dst ?_; (first | (refine i_move ?_; refine l_q rfl rfl rfl (q_move rfl) ?_) | (refine i_assign ?_; refine l_q rfl rfl rfl (q_assign rfl) ?_) | refine l_q rfl rfl rfl (by (exact q_extract rfl rfl)) ?_)) | refine d_seq ?_ | refine c_region ?_ | refine l_nil ?_ | (refine i_q ?_; (refine d_then ?_))))
      (refine l_call0 rfl rfl Try.func29 rfl (by decide) (fun w' h => page_nil w' 1 0) (fun v B hv => ?_); obtain ⟨rfl, rfl⟩ := hv)
      (repeat (first | (refine i_dst ?_; (first | (refine i_move ?_; refine l_q rfl rfl rfl (q_move rfl) ?_) | (refine i_assign ?_; refine l_q rfl rfl rfl (q_assign rfl) ?_) | (refine i_bin ?_; refine l_q rfl rfl rfl (by (first | exact q_eql rfl rfl | exact q_eqs rfl rfl)) ?_) | (refine l_q rfl rfl rfl (by (first | exact q_extract rfl rfl | (apply iq_cv; ((exact q_str tab rfl rfl rfl rfl (fun w h => roB_of (h.mem (by first | ((repeat (first | exact List.Mem.head _ | apply List.Mem.tail)); done) | fail)))))) | exact q_pick_t rfl rfl)) ?_))) | refine d_seq ?_ | refine c_region ?_ | refine l_nil ?_ | (refine i_q ?_; (refine d_then ?_)) | (refine i_guard ?_; (first | refine l_gt rfl rfl rfl ?_ | (refine l_gtd rfl rfl rfl (by (((first | (simp; done) | fail)))) ?_)))))
      have hst : ((strOfNums m.abs.ram).toList == (strOfNums m.abs.ram).toList) = true := by simp
      rw [hst]
      (repeat fail)
      (refine l_call0 rfl rfl Try.func27 rfl (by decide) (fun w' h => write_nil w' 1 0 0 none 0 0) (fun v B hv => ?_); obtain ⟨rfl, rfl⟩ := hv)
      (repeat (first | (refine i_dst ?_; (first | (refine i_move ?_; refine l_q rfl rfl rfl (q_move rfl) ?_) | (refine i_bin ?_; refine l_q rfl rfl rfl (by (exact q_eql rfl rfl)) ?_) | refine l_q rfl rfl rfl (by (exact q_pick_t rfl rfl)) ?_)) | (refine i_guard ?_; (refine l_gt rfl rfl rfl ?_))))
      (refine l_call0 rfl rfl Try.func25 rfl (by decide) (fun w' h => set_nil w' 1 0 0) (fun v B hv => ?_); obtain ⟨rfl, rfl⟩ := hv)
      (repeat (first | (refine i_dst ?_; (first | (refine i_move ?_; refine l_q rfl rfl rfl (q_move rfl) ?_) | (refine i_bin ?_; refine l_q rfl rfl rfl (by (exact q_eql rfl rfl)) ?_) | refine l_q rfl rfl rfl (by (exact q_pick_t rfl rfl)) ?_)) | (refine i_guard ?_; (refine l_gt rfl rfl rfl ?_))))
      (refine l_call0 rfl rfl Try.func28 rfl (by decide) (fun w' h => copy_nil w' 0 0 0) (fun v B hv => ?_); obtain ⟨rfl, rfl⟩ := hv)
      (repeat (first | (refine i_dst ?_; (first | (refine i_move ?_; refine l_q rfl rfl rfl (q_move rfl) ?_) | (refine i_bin ?_; refine l_q rfl rfl rfl (by (exact q_eql rfl rfl)) ?_) | refine l_q rfl rfl rfl (by (exact q_pick_t rfl rfl)) ?_)) | (refine i_guard ?_; (refine l_gt rfl rfl rfl ?_))))
      (refine l_call0 rfl rfl Try.func37 rfl (by decide) (fun w' h => mclone_nil w') (fun v B hv => ?_); obtain ⟨rfl, rfl⟩ := hv)
      (repeat (first | (refine i_dst ?_; (first | (refine i_assign ?_; refine l_q rfl rfl rfl (q_assign rfl) ?_) | (refine i_bin ?_; refine l_q rfl rfl rfl (by (exact q_eqnil tab rfl rfl rfl)) ?_) | refine l_q rfl rfl rfl (by (exact q_pick_t rfl rfl)) ?_)) | refine l_nil ?_ | (refine i_q ?_; (refine d_then ?_)) | refine c_ret ?_ | (refine i_guard ?_; (refine l_gt rfl rfl rfl ?_))))
      exact t_ret1 Try.results10 rfl rfl
end Go.Proofs.Ytecnodkjjpjglaa

/-
  Layer 8: MemPages, walked.
-/
import Derived.Test.YtecnodkjjpjglaaL4
set_option linter.unusedVariables false
set_option maxRecDepth 100000
namespace Go.Proofs.Ytecnodkjjpjglaa
open Go.RowKit
attribute [local irreducible] TL TC TQ TK TO Qt TA

attribute [local irreducible] blk row bytesA starL memA segA roB


set_option maxHeartbeats 8000000 in
theorem memPages_walk (v : Value) (x : MapI) (W : World) (hx : InMap (fps []) W v x) (seg from_ to who : Nat) (h1 : seg ≤ 255) (h2 : from_ ≤ 255) (h3 : to ≤ 255) (h4 : who ≤ 255) (A : Option Addr) (n c : Nat) (l : List Int) (hr0 : (roB A n l).C W) (hnc : n ≤ c) (hcm : c ≤ maxLen) :
    Calls Try.prog 5 #[v, .int .u8 seg, .int .u8 from_, .int .u8 to, .int .u8 who, .slice A n c] W (Ret W [] fun v _ => v = .bool true) := by
  have hr : Ro (fps []) W (roB A n l) := Ro.empty hr0
  obtain ⟨A0, c0, A0', n0', c0', hv, _⟩ := hx.is
  subst hv
  refine enter (vs := [.agg #[.int .i64 x.ram, .slice A0 x.segs.length c0, .slice A0' n0' c0'], .int .u8 seg, .int .u8 from_, .int .u8 to, .int .u8 who, .slice A n c]) Try.func5 rfl Try.ntmps5 rfl (Hold.nil W) ?_
  unfold maxLen at hcm
  (repeat (first | refine c_seq (fun K hK => ?_) | refine c_region ?_))
  refine l_op rfl (fun K hK => e_box rfl rfl rfl (fun b6 => hK _ _ ?_))
  clear hK
  (repeat (first | (refine i_dst ?_; ((refine i_assign ?_; refine l_q rfl rfl rfl (q_assign rfl) ?_))) | refine c_seq (fun K hK => ?_) | refine c_region ?_ | refine l_nil ?_ | refine t_then ?_ | (refine i_k ?_; (((refine hK _ _ ?_; clear hK))))))
  (refine l_op rfl (fun K hK => e_call0 rfl rfl Try.func13 rfl (by decide) (fun w' h => shown_spec w') (fun v B hv => hK _ _ ?_)); clear hK; obtain ⟨rfl, rfl⟩ := hv)
  (repeat (first | (refine i_dst ?_; (first | (refine i_assign ?_; refine l_q rfl rfl rfl (q_assign rfl) ?_) | (refine i_load ?_; refine l_q rfl rfl rfl (by (exact q_loadB3 tab 0 rfl rfl rfl rfl rfl rfl rfl rfl)) ?_))) | refine c_seq (fun K hK => ?_) | refine c_region ?_ | refine l_nil ?_ | refine t_then ?_ | (refine i_k ?_; (((refine hK _ _ ?_; clear hK))))))
  (refine l_op rfl (fun K hK => e_call0 rfl rfl Try.func24 rfl (by decide) (fun w' h => good_spec _ x w' (hx.to0 h)) (fun v B hv => hK _ _ ?_)); clear hK; obtain ⟨A1, c1, rfl, hc1, hc2, rfl⟩ := hv)
  refine l_op rfl (fun K hK => e_alloc tab rfl rfl rfl (fun b14 => hK _ _ ?_))
  clear hK
  by_cases h0 : (goodM x).segs.length = 0
  · (repeat (first | (refine i_dst ?_; (first | (refine i_move ?_; refine l_q rfl rfl rfl (q_move rfl) ?_) | (refine i_assign ?_; refine l_q rfl rfl rfl (q_assign rfl) ?_) | (refine i_load ?_; refine l_q rfl rfl rfl (by (exact q_load tab rfl rfl rfl (fun w h => blk_cell (h.get (i := 0) rfl) rfl))) ?_) | (refine i_bin ?_; refine l_q rfl rfl rfl (by (exact q_eql rfl rfl)) ?_) | (refine i_blt ?_; refine l_q rfl rfl rfl (by (exact q_len tab rfl rfl)) ?_) | refine l_q rfl rfl rfl (by (exact q_fieldAddr tab rfl rfl rfl rfl rfl rfl rfl)) ?_)) | refine c_seq (fun K hK => ?_) | refine c_region ?_ | refine l_nil ?_ | refine t_then ?_ | (refine i_k ?_; (((refine hK _ _ ?_; clear hK)))) | (refine i_q ?_; (refine t_then_ret ?_)) | refine c_ret ?_ | (refine i_store ?_; ((refine l_op rfl (fun K hK => e_storeN tab rfl rfl rfl (i := 0) rfl rfl rfl (by (exact Nat.le_of_ble_eq_true rfl)) rfl (hK _ _ ?_)); clear hK))) | (refine i_cond ?_; (refine c_ct rfl (by (exact decide_eq_true (by omega))) ?_))))
    exact t_ret1 Try.results5 rfl rfl
  · (repeat (first | (refine i_dst ?_; (first | (refine i_load ?_; refine l_q rfl rfl rfl (by (first | exact q_load tab rfl rfl rfl (fun w h => blk_cell (h.get (i := 0) rfl) rfl) | exact q_loadB3 tab 0 rfl rfl rfl rfl rfl rfl rfl rfl)) ?_) | (refine i_bin ?_; refine l_q rfl rfl rfl (by (exact q_eql rfl rfl)) ?_) | (refine i_blt ?_; refine l_q rfl rfl rfl (by (exact q_len tab rfl rfl)) ?_) | refine l_q rfl rfl rfl (by (exact q_fieldAddr tab rfl rfl rfl rfl rfl rfl rfl)) ?_)) | refine c_seq (fun K hK => ?_) | refine c_region ?_ | refine l_nil ?_ | refine t_then ?_ | (refine i_k ?_; (((refine hK _ _ ?_; clear hK)))) | refine c_skip ?_ | (refine i_store ?_; ((refine l_op rfl (fun K hK => e_storeN tab rfl rfl rfl (i := 0) rfl rfl rfl (by (exact Nat.le_of_ble_eq_true rfl)) rfl (hK _ _ ?_)); clear hK))) | (refine i_cond ?_; (refine c_cf rfl (by (exact decide_eq_false (by omega))) ?_))))
    (refine l_op rfl (fun K hK => e_call0 rfl rfl Try.func14 rfl (by decide) (fun w' h => new_spec _ (goodM x) w' (InMap.good (h.get (i := 1) rfl) hc1 hc2)) (fun v B hv => hK _ _ ?_)); clear hK; obtain ⟨_, p, m, rfl, rfl, hm⟩ | ⟨hno, _⟩ := hv)
    rotate_left
    · exact absurd (good_ok x) hno
    have hk : MmOk m.abs := by rw [hm]; exact newM_ok (good_ok x)
    obtain ⟨kk, hkk⟩ : ∃ kk, kk = seg % (goodM x).segs.length := ⟨_, rfl⟩
    have hkk1 : kk < (goodM x).segs.length := by rw [hkk]; exact Nat.mod_lt _ (by omega)
    have hkk2 : (seg : Int) % ((goodM x).segs.length : Int) = (kk : Int) := by rw [hkk]; rfl
    obtain ⟨sg, hsg⟩ : ∃ sg, (goodM x).segs[kk]? = some sg := ⟨_, List.getElem?_eq_getElem hkk1⟩
    obtain ⟨g1, g2, g3, g4⟩ := good_seg hsg
    refine l_fact (p := ∃ gA, A1 = some ⟨gA, 0, none⟩) (fun w h => ?_) ?_
    · obtain ⟨A', c', q1, _, _, q4⟩ := row_slice (h.get (i := 2) rfl)
      injection q1 with q1 _ _
      subst q1
      obtain ⟨gA, q5, _⟩ := q4 (by omega)
      exact ⟨gA, q5⟩
    rintro ⟨gA, rfl⟩
    (repeat (first | (refine i_dst ?_; (first | (refine i_move ?_; refine l_q rfl rfl rfl (q_move rfl) ?_) | (refine i_assign ?_; refine l_q rfl rfl rfl (q_assign rfl) ?_) | (refine i_load ?_; refine l_q rfl rfl rfl (by (exact q_load tab rfl rfl rfl (fun w h => blk_cell (h.get (i := 1) rfl) rfl))) ?_) | (refine i_bin ?_; refine l_q rfl rfl rfl (by (first | exact q_neq rfl rfl | exact q_eqnil tab rfl rfl rfl | exact q_rem rfl rfl (by omega) (Int.tmod_eq_emod_of_nonneg (by omega)))) ?_) | (refine i_blt ?_; refine l_q rfl rfl rfl (by (exact q_len tab rfl rfl)) ?_) | (refine i_ix ?_; refine l_q rfl rfl rfl (by (exact q_indexAddr tab rfl rfl rfl rfl (by omega))) ?_) | refine l_q rfl rfl rfl (by (first | exact q_extract rfl rfl | exact q_fieldAddr tab rfl rfl rfl rfl rfl rfl rfl | exact q_conv tab rfl rfl rfl (by (first | exact wr_i64 (by omega) | rfl)) | exact q_pick_f rfl rfl)) ?_)) | refine c_seq (fun K hK => ?_) | refine c_region ?_ | refine l_nil ?_ | refine t_then ?_ | (refine i_k ?_; (((refine hK _ _ ?_; clear hK)))) | refine c_skip ?_ | (refine i_guard ?_; (refine l_gt rfl rfl rfl ?_)) | (refine i_cond ?_; (refine c_cf rfl (by (rfl)) ?_))))
    rw [hkk2]
    (repeat fail)
    have hk4 := (good_ok x).2.2.1
    refine l_q rfl rfl rfl (q_loadN tab (vs := [.int .i64 sg.1, .int .i64 sg.2]) rfl rfl rfl rfl rfl (fun w h => ?_)) ?_
    · obtain ⟨f1, f2⟩ := segCells_get _ kk sg hsg
      have e2 := row_cells (h.get (i := 2) rfl) rfl
      intro j u hu
      rw [Int.toNat_natCast, Nat.zero_add]
      match j, hu with
      | 0, hu => injection hu with hu; subst hu; have := e2 _ _ f1; rwa [Nat.zero_add] at this
      | 1, hu => injection hu with hu; subst hu; have := e2 _ _ f2; rwa [Nat.zero_add] at this
    refine l_op rfl (fun K hK => e_alloc tab rfl rfl rfl (fun b18 => hK _ _ ?_))
    clear hK
    (repeat (first | refine c_seq (fun K hK => ?_) | refine l_nil ?_ | refine t_then ?_ | (refine i_k ?_; (((refine hK _ _ ?_; clear hK)))) | (refine i_store ?_; ((refine l_op rfl (fun K hK => e_storeN tab rfl rfl rfl (i := 0) rfl rfl rfl (by (exact Nat.le_of_ble_eq_true rfl)) rfl (hK _ _ ?_)); clear hK)))))
    have q1 : 0 ≤ (from_ : Int) % (sg.2 - 1) ∧ (from_ : Int) % (sg.2 - 1) < sg.2 - 1 := ⟨Int.emod_nonneg _ (by omega), Int.emod_lt_of_pos _ (by omega)⟩
    have q2 : 0 ≤ (to : Int) % (sg.2 - 1) ∧ (to : Int) % (sg.2 - 1) < sg.2 - 1 := ⟨Int.emod_nonneg _ (by omega), Int.emod_lt_of_pos _ (by omega)⟩
    obtain ⟨p0, hp0⟩ : ∃ p0 : Nat, 1 + (from_ : Int) % (sg.2 - 1) = p0 := ⟨(1 + (from_ : Int) % (sg.2 - 1)).toNat, by omega⟩
    obtain ⟨q0, hq0⟩ : ∃ q0 : Nat, 1 + (to : Int) % (sg.2 - 1) = q0 := ⟨(1 + (to : Int) % (sg.2 - 1)).toNat, by omega⟩
    refine a_begin mixed [blk b18 [.int .i64 sg.1, .int .i64 sg.2] 53] 16 rfl (fun w h => h.pick [0] rfl) ?_
    ((refine a_q 0 rfl rfl rfl rfl rfl (by decide +kernel) (q_move rfl) ?_; refine a_q 1 rfl rfl rfl rfl rfl (by decide +kernel) (by (exact q_conv tab rfl rfl rfl (by (exact wr_i64 (by omega))))) ?_; refine a_q 2 rfl rfl rfl rfl rfl (by decide +kernel) (by (exact q_fieldAddr tab rfl rfl rfl rfl rfl rfl rfl)) ?_; (refine a_q 3 rfl rfl rfl rfl rfl (by decide +kernel) (by (exact q_load tab rfl rfl rfl (fun w h => blk_cell (h.get (i := 0) rfl) rfl))) ?_); refine a_q 4 rfl rfl rfl rfl rfl (by decide +kernel) (by (exact q_sub rfl rfl (by (exact wr_i64 (by omega))))) ?_; refine a_q 5 rfl rfl rfl rfl rfl (by decide +kernel) (by (exact q_rem rfl rfl (by omega) (Int.tmod_eq_emod_of_nonneg (by omega)))) ?_; refine a_q 6 rfl rfl rfl rfl rfl (by decide +kernel) (by (exact q_add rfl rfl (by (exact wr_i64 (by omega))))) ?_; refine a_q 7 rfl rfl rfl rfl rfl (by decide +kernel) (q_move rfl) ?_; refine a_q 8 rfl rfl rfl rfl rfl (by decide +kernel) (by (exact q_conv tab rfl rfl rfl (by (exact wr_i64 (by omega))))) ?_; refine a_q 9 rfl rfl rfl rfl rfl (by decide +kernel) (by (exact q_fieldAddr tab rfl rfl rfl rfl rfl rfl rfl)) ?_; (refine a_q 10 rfl rfl rfl rfl rfl (by decide +kernel) (by (exact q_load tab rfl rfl rfl (fun w h => blk_cell (h.get (i := 0) rfl) rfl))) ?_); refine a_q 11 rfl rfl rfl rfl rfl (by decide +kernel) (by (exact q_sub rfl rfl (by (exact wr_i64 (by omega))))) ?_; refine a_q 12 rfl rfl rfl rfl rfl (by decide +kernel) (by (exact q_rem rfl rfl (by omega) (Int.tmod_eq_emod_of_nonneg (by omega)))) ?_; refine a_q 13 rfl rfl rfl rfl rfl (by decide +kernel) (by (exact q_add rfl rfl (by (exact wr_i64 (by omega))))) ?_; refine a_q 14 rfl rfl rfl rfl rfl (by decide +kernel) (q_assign rfl) ?_; refine a_q 15 rfl rfl rfl rfl rfl (by decide +kernel) (q_assign rfl) ?_))
    refine a_done (by decide +kernel) ?_
    rw [hp0, hq0]
    obtain ⟨nc, hnc'⟩ : ∃ nc, nc = min n sg.1.toNat := ⟨_, rfl⟩
    have mn1 : (if sg.1 < (n : Int) then sg.1 else (n : Int)) = (nc : Int) := by split <;> omega
    have hrt := hr.take (k := nc) (by omega)
    have hcl : (l.take nc).length = nc := roB_len hrt.is
    have hco : Oct (l.take nc) := roB_oct hrt.is
    obtain ⟨cl, hcl'⟩ : ∃ cl, cl = l.take nc := ⟨_, rfl⟩
    rw [← hcl'] at hrt hcl hco
    obtain ⟨ww, hww⟩ : ∃ ww : Nat, (who : Int) % 3 + 1 = ww := ⟨who % 3 + 1, by omega⟩
    have hs0 : m.abs.segs[kk]? = some (segOf (goodM x) kk sg) := by rw [hm]; exact newSegs_get hkk1 hsg
    have hdl : (segOf (goodM x) kk sg).dat.length = sg.2.toNat := by simp [segOf]; omega
    obtain ⟨M1, M2, M3, M4, e1, e2, e3, e4, e5, e6, e7, e8, e9⟩ := pages_law hk hs0 rfl (p := p0) (q := q0) (ww := ww) (by omega) (by omega) (by omega) cl (by simp only [segOf]; omega)
    rw [hcl] at e7
    rw [hdl, show ((sg.2.toNat : Nat) : Int) = sg.2 by omega] at e9
    (repeat (first | (refine i_dst ?_; (first | (refine i_move ?_; refine l_q rfl rfl rfl (q_move rfl) ?_) | (refine i_assign ?_; refine l_q rfl rfl rfl (q_assign rfl) ?_) | (refine i_load ?_; refine l_q rfl rfl rfl (by (exact q_load tab rfl rfl rfl (fun w h => blk_cell (h.get (i := 0) rfl) rfl))) ?_) | (refine i_bin ?_; refine l_q rfl rfl rfl (by (first | exact q_add rfl rfl (by (first | exact wr_u8 (by omega) | rfl)) | exact q_rem rfl rfl (by omega) (Int.tmod_eq_emod_of_nonneg (by omega)))) ?_) | (refine i_blt ?_; refine l_q rfl rfl rfl (by (first | exact q_len tab rfl rfl | exact q_min rfl rfl mn1)) ?_) | (refine i_sl ?_; refine l_q rfl rfl rfl (by (exact q_sliceHi tab rfl rfl rfl rfl (by omega))) ?_) | refine l_q rfl rfl rfl (by (exact q_fieldAddr tab rfl rfl rfl rfl rfl rfl rfl)) ?_)) | refine c_seq (fun K hK => ?_) | refine c_region ?_ | refine l_nil ?_ | refine t_then ?_ | (refine i_k ?_; (((refine hK _ _ ?_; clear hK))))))
    rw [hww]
    (repeat fail)
    refine l_op rfl (fun K hK => e_call (A := [memA p m]) rfl rfl Try.func25 rfl (by decide) (fun w h => h.pick [1, 0] rfl) (fun w' h => set_spec (h.split (A := [memA p m])) hk 2 kk p0 (by omega)) (fun v B hv => hK _ _ ?_))
    obtain ⟨m1, rfl, hm1, rfl⟩ := hv
    clear hK
    have k1 : MmOk m1.abs := by rw [hm1]; exact setM_ok hk
    rw [e1] at hm1 ⊢
    dsimp only at hm1
    rw [← hm1] at e2
    (repeat (first | (refine i_dst ?_; (first | (refine i_move ?_; refine l_q rfl rfl rfl (q_move rfl) ?_) | (refine i_bin ?_; refine l_q rfl rfl rfl (by (first | exact q_neq rfl rfl | exact q_add rfl rfl (by (exact wr_i64 (by omega))))) ?_) | refine l_q rfl rfl rfl (by (exact q_conv tab rfl rfl rfl (by (first | exact wr_u8 (by omega) | rfl)))) ?_)) | (refine i_guard ?_; (refine l_gt rfl rfl rfl ?_))))
    refine l_op rfl (fun K hK => e_call (A := [memA p m1]) rfl rfl Try.func27 rfl (by decide) (fun w h => h.pick [0, 1] rfl) (fun w' h => write_spec (h.split (A := [memA p m1])) k1 2 (kk + 1) 0 A nc c cl (h.roOf hrt (fun X hX => by simp at hX; simp [hX])) (by omega) (by omega) (by omega) (by omega) (by omega)) (fun v B hv => hK _ _ ?_))
    obtain ⟨m2, rfl, hm2, rfl⟩ := hv
    clear hK
    have k2 : MmOk m2.abs := by rw [hm2]; exact writeM_ok k1 (by omega)
    rw [e2] at hm2 ⊢
    dsimp only at hm2
    rw [← hm2] at e3
    (repeat (first | (refine i_dst ?_; (first | (refine i_move ?_; refine l_q rfl rfl rfl (q_move rfl) ?_) | (refine i_bin ?_; refine l_q rfl rfl rfl (by (exact q_neq rfl rfl)) ?_) | refine l_q rfl rfl rfl (by (exact q_pick_f rfl rfl)) ?_)) | (refine i_guard ?_; (refine l_gt rfl rfl rfl ?_))))
    refine l_op rfl (fun K hK => e_call (A := [memA p m2]) rfl rfl Try.func28 rfl (by decide) (fun w h => h.pick [0, 1] rfl) (fun w' h => copy_spec (h.split (A := [memA p m2])) k2 kk p0 q0) (fun v B hv => hK _ _ ?_))
    obtain ⟨m3, rfl, hm3, rfl⟩ := hv
    clear hK
    have k3 : MmOk m3.abs := by rw [hm3]; exact copyM_ok k2
    rw [e3] at hm3 ⊢
    dsimp only at hm3
    rw [← hm3] at e4
    (repeat (first | (refine i_dst ?_; (first | (refine i_move ?_; refine l_q rfl rfl rfl (q_move rfl) ?_) | (refine i_bin ?_; refine l_q rfl rfl rfl (by (exact q_neq rfl rfl)) ?_) | refine l_q rfl rfl rfl (by (exact q_pick_f rfl rfl)) ?_)) | (refine i_guard ?_; (refine l_gt rfl rfl rfl ?_))))
    refine l_op rfl (fun K hK => e_call (A := [memA p m3]) rfl rfl Try.func25 rfl (by decide) (fun w h => h.pick [0, 1] rfl) (fun w' h => set_spec (h.split (A := [memA p m3])) k3 ww kk q0 (by omega)) (fun v B hv => hK _ _ ?_))
    obtain ⟨m4, rfl, hm4, rfl⟩ := hv
    clear hK
    have k4 : MmOk m4.abs := by rw [hm4]; exact setM_ok k3
    rw [e4] at hm4 ⊢
    dsimp only at hm4
    rw [← hm4] at e5 e6 e7 e8 e9
    (repeat (first | (refine i_dst ?_; (first | (refine i_move ?_; refine l_q rfl rfl rfl (q_move rfl) ?_) | (refine i_bin ?_; refine l_q rfl rfl rfl (by (exact q_neq rfl rfl)) ?_) | refine l_q rfl rfl rfl (by (exact q_pick_f rfl rfl)) ?_)) | refine c_seq (fun K hK => ?_) | refine c_region ?_ | refine l_nil ?_ | refine t_then ?_ | (refine i_k ?_; (((refine hK _ _ ?_; clear hK)))) | refine c_skip ?_ | (refine i_guard ?_; (refine l_gt rfl rfl rfl ?_)) | (refine i_cond ?_; (refine c_cf rfl (by (rfl)) ?_))))
    obtain ⟨i0, hi0⟩ : ∃ i0, i0 = if ww = 2 then 0 else q0 := ⟨_, rfl⟩
    obtain ⟨j0, hj0⟩ : ∃ j0, j0 = if ww = 1 then p0 else q0 := ⟨_, rfl⟩
    rw [← hi0] at e5
    rw [← hj0] at e6
    refine l_hp (hp' := [memA p m4, blk b18 [.int .i64 sg.1, .int .i64 sg.2] 53]) (fun w h => h.pick [0, 1] rfl) ?_
    (refine l_op rfl (fun K hK => e_call0 rfl rfl Try.func29 rfl (by decide) (fun w' h => page_spec (roHp0 h (i := 0) rfl) k4 1 kk (by omega)) (fun v B hv => hK _ _ ?_)); clear hK; obtain ⟨rfl, rfl⟩ := hv)
    rw [e5]
    (repeat (first | (refine i_dst ?_; (first | (refine i_move ?_; refine l_q rfl rfl rfl (q_move rfl) ?_) | (refine i_assign ?_; refine l_q rfl rfl rfl (q_assign rfl) ?_) | refine l_q rfl rfl rfl (by (exact q_extract rfl rfl)) ?_)) | refine c_seq (fun K hK => ?_) | refine c_region ?_ | refine l_nil ?_ | refine t_then ?_ | (refine i_k ?_; (((refine hK _ _ ?_; clear hK))))))
    (refine l_op rfl (fun K hK => e_call0 rfl rfl Try.func29 rfl (by decide) (fun w' h => page_spec (roHp0 h (i := 0) rfl) k4 2 kk (by omega)) (fun v B hv => hK _ _ ?_)); clear hK; obtain ⟨rfl, rfl⟩ := hv)
    rw [e6]
    (repeat (first | (refine i_dst ?_; (first | (refine i_move ?_; refine l_q rfl rfl rfl (q_move rfl) ?_) | (refine i_assign ?_; refine l_q rfl rfl rfl (q_assign rfl) ?_) | refine l_q rfl rfl rfl (by (exact q_extract rfl rfl)) ?_)) | refine c_seq (fun K hK => ?_) | refine c_region ?_ | refine l_nil ?_ | refine t_then ?_ | (refine i_k ?_; (((refine hK _ _ ?_; clear hK))))))
    refine l_q rfl rfl rfl (q_build (v := .agg #[.int .i64 0, .int .i64 p0]) rfl (fun w => by kernel_rfl)) ?_
    refine l_op rfl (fun K hK => e_alloc tab rfl rfl rfl (fun b27 => hK _ _ ?_))
    clear hK
    have hg : Try.prog.eqGuardType Try.prog.depth 54 = false := by decide +kernel
    have s1 : ∀ hp w', St (fps []) W hp w' → (roB A nc cl).C w' := fun hp w' h => h.ro hrt
    have hw3 : ww = 1 ∨ ww = 2 ∨ ww = 3 := by omega
    rcases hw3 with rfl | rfl | rfl
    all_goals
      (repeat (first | (refine i_dst ?_; (first | (refine i_move ?_; refine l_q rfl rfl rfl (q_move rfl) ?_) | (refine i_bin ?_; refine l_q rfl rfl rfl (by (first | exact q_neq rfl rfl | exact q_add rfl rfl (by (first | exact wr_i64 (by omega) | rfl)) | exact q_bits rfl rfl rfl (fun w => rfl))) ?_) | (refine i_blt ?_; refine l_q rfl rfl rfl (by (exact q_len tab rfl rfl)) ?_) | (refine i_ix ?_; refine l_q rfl rfl rfl (by (exact q_indexAddrA1 tab rfl rfl rfl rfl (by omega))) ?_) | refine l_q rfl rfl rfl (by (exact q_conv tab rfl rfl rfl (by (first | exact wr_u8 (by omega) | rfl)))) ?_)) | refine c_seq (fun K hK => ?_) | refine c_region ?_ | refine l_nil ?_ | refine t_then ?_ | (refine i_k ?_; (((refine hK _ _ ?_; clear hK)))) | refine c_skip ?_ | (refine i_store ?_; (first | (refine l_op rfl (fun K hK => e_store1 tab rfl rfl (i := 0) rfl rfl (by (exact Nat.le_of_ble_eq_true rfl)) rfl (hK _ _ ?_)); clear hK) | (refine l_op rfl (fun K hK => e_storeN tab rfl rfl rfl (i := 0) rfl rfl rfl (by (exact Nat.le_of_ble_eq_true rfl)) rfl (hK _ _ ?_)); clear hK))) | (refine i_cond ?_; (first | refine c_ct rfl (by (rfl)) ?_ | refine c_cf rfl (by (rfl)) ?_))))
      (refine l_op rfl (fun K hK => e_call0 rfl rfl Try.func26 rfl (by decide) (fun w' h => read_spec (m := m4) (roHp0 h (i := 1) rfl) k4 2 (kk + 1) 0 nc (by omega) (by omega) (by omega) (by omega) (by omega)) (fun v B hv => hK _ _ ?_)); clear hK; obtain ⟨A2, c2, rfl, rfl⟩ := hv)
      rw [e7]
      dsimp only
      (repeat (first | (refine i_dst ?_; (first | (refine i_move ?_; refine l_q rfl rfl rfl (q_move rfl) ?_) | (refine i_assign ?_; refine l_q rfl rfl rfl (q_assign rfl) ?_) | (refine i_bin ?_; refine l_q rfl rfl rfl (by (exact q_eql rfl rfl)) ?_) | refine l_q rfl rfl rfl (by (first | exact q_extract rfl rfl | exact q_pick_t rfl rfl)) ?_)) | refine c_seq (fun K hK => ?_) | refine c_region ?_ | refine l_nil ?_ | refine t_then ?_ | (refine i_k ?_; (((refine hK _ _ ?_; clear hK)))) | (refine i_guard ?_; (refine l_gt rfl rfl rfl ?_))))
      refine l_q rfl rfl rfl (q_build (v := .agg #[.int .i64 i0, .int .i64 j0]) rfl (fun w => by kernel_rfl)) ?_
      (repeat (first | (refine i_dst ?_; ((refine i_load ?_; refine l_q rfl rfl rfl (by (exact q_loadB2 tab 1 rfl rfl rfl rfl rfl rfl rfl)) ?_))) | (refine i_guard ?_; (refine l_gt rfl rfl rfl ?_))))
      refine l_q rfl rfl rfl (q_eqA2t tab rfl rfl rfl rfl rfl hg (by simp [hi0]) (by simp [hj0])) ?_
      (repeat (first | (refine i_dst ?_; (first | (refine i_move ?_; refine l_q rfl rfl rfl (q_move rfl) ?_) | (refine i_bin ?_; refine l_q rfl rfl rfl (by (first | exact q_eql rfl rfl | exact q_eqs rfl rfl)) ?_) | refine l_q rfl rfl rfl (by (first | exact q_pick_t rfl rfl | exact q_str tab rfl rfl rfl rfl (fun w h => roB_of (h.get (i := 0) rfl)) | exact q_str tab rfl rfl rfl rfl (s1 _))) ?_)) | (refine i_guard ?_; (first | refine l_gt rfl rfl rfl ?_ | (refine l_gtd rfl rfl rfl (by (((first | (simp; done) | fail)))) ?_)))))
      refine l_op rfl (fun K hK => e_call (A := [memA p m4]) rfl rfl Try.func28 rfl (by decide) (fun w h => h.pick [2, 3] rfl) (fun w' h => copy_spec (h.split (A := [memA p m4])) k4 kk p0 0) (fun v B hv => hK _ _ ?_))
      obtain ⟨m5, rfl, hm5, rfl⟩ := hv
      clear hK
      rw [e8] at hm5 ⊢
      dsimp only at hm5
      rw [← hm5] at e9 k4
      (repeat (first | (refine i_dst ?_; (first | (refine i_move ?_; refine l_q rfl rfl rfl (q_move rfl) ?_) | (refine i_load ?_; refine l_q rfl rfl rfl (by (exact q_load tab rfl rfl rfl (fun w h => blk_cell (h.get (i := 1) rfl) rfl))) ?_) | (refine i_bin ?_; refine l_q rfl rfl rfl (by (exact q_eql rfl rfl)) ?_) | refine l_q rfl rfl rfl (by (first | exact q_fieldAddr tab rfl rfl rfl rfl rfl rfl rfl | exact q_pick_t rfl rfl)) ?_)) | (refine i_guard ?_; (refine l_gt rfl rfl rfl ?_))))
      refine l_op rfl (fun K hK => e_call (A := [memA p m5]) rfl rfl Try.func28 rfl (by decide) (fun w h => h.pick [0, 1] rfl) (fun w' h => copy_spec (h.split (A := [memA p m5])) k4 kk p0 sg.2) (fun v B hv => hK _ _ ?_))
      obtain ⟨m6, rfl, hm6, rfl⟩ := hv
      clear hK
      rw [e9] at hm6 ⊢
      (repeat (first | (refine i_dst ?_; (first | (refine i_assign ?_; refine l_q rfl rfl rfl (q_assign rfl) ?_) | (refine i_bin ?_; refine l_q rfl rfl rfl (by (exact q_eql rfl rfl)) ?_) | refine l_q rfl rfl rfl (by (exact q_pick_t rfl rfl)) ?_)) | refine l_nil ?_ | refine t_then ?_ | (refine i_k ?_; (((refine hK _ _ ?_; clear hK)))) | refine c_ret ?_ | (refine i_guard ?_; (refine l_gt rfl rfl rfl ?_))))
      exact t_ret1 Try.results5 rfl rfl
end Go.Proofs.Ytecnodkjjpjglaa

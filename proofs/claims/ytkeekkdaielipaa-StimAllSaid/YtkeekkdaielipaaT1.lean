/-
  Layer 14: shown, walked.
-/
import Derived.Test.YtkeekkdaielipaaS6
import Derived.Test.YtkeekkdaielipaaS7
set_option linter.unusedVariables false
set_option maxRecDepth 100000
namespace Go.Proofs.Ytkeekkdaielipaa
open Go.RowKit
attribute [local irreducible] TL TC TQ TK TO Qt TA
theorem InMap.ram {w0 : World} (r : Int) : InMap (fps []) w0 (.agg #[.int .i64 r, .slice none 0 0, .slice none 0 0]) ⟨r, [], []⟩ := ⟨⟨none, 0, none, 0, 0, rfl, Nat.le_refl _, Nat.zero_le _, Ro.empty (roV_nil _), InBB.nil, Nat.le_refl _, Nat.zero_le _⟩⟩
theorem okRam {r : Int} (h : 0 ≤ r ∧ r ≤ 1024) : okMap ⟨r, [], []⟩ := ⟨h.1, h.2, Nat.zero_le _, Nat.le_refl _, fun i s h => by simp at h⟩
def shown14 : ListI := ⟨0, [[⟨1, 0, 0⟩], [⟨1, 0, 1⟩]], true, 0, 0, 0, true, false⟩
theorem shown14_in {S : Nat → Prop} {w0 : World} {b1 b2 b3 : Nat} (h1 : Ro S w0 (blk b1 [.int .u8 1, .int .u8 0, .int .u32 0] 38)) (h2 : Ro S w0 (blk b2 [.int .u8 1, .int .u8 0, .int .u32 1] 38)) (h3 : Ro S w0 (blk b3 [.slice (some ⟨b1, 0, none⟩) 1 1, .slice (some ⟨b2, 0, none⟩) 1 1] 39)) :
    InList S w0 [.int .i64 0, .slice (some ⟨b3, 0, none⟩) 2 2, .bool true, .int .u8 0, .int .u8 0, .int .u8 0, .bool true, .bool false] shown14 := by
  refine ⟨⟨some ⟨b3, 0, none⟩, 2, 2, rfl, ?_, Nat.le_refl _, by simp [maxLen]⟩, by simp [shown14], Nat.zero_le _, Nat.zero_le _, Nat.zero_le _⟩
  refine InS.blk (sz := 1) (xs := shown14.tabs) (rows := [[.slice (some ⟨b1, 0, none⟩) 1 1], [.slice (some ⟨b2, 0, none⟩) 1 1]]) h3 rfl (by simp) (fun i r x hr hx => ?_)
  match i, hr, hx with
  | 0, hr, hx =>
    injection hr with hr
    injection hx with hx
    subst hr hx
    exact ⟨_, 1, 1, rfl, InS.blk (sz := 3) (xs := [(⟨1, 0, 0⟩ : EntryI)]) (rows := [[.int .u8 1, .int .u8 0, .int .u32 0]]) h1 rfl (by simp) (fun i r x hr hx => by
      match i, hr, hx with
      | 0, hr, hx =>
        injection hr with hr
        injection hx with hx
        subst hr hx
        exact ⟨rfl, by decide, by decide, by decide⟩), Nat.le_refl _, by simp [maxLen]⟩
  | 1, hr, hx =>
    injection hr with hr
    injection hx with hx
    subst hr hx
    exact ⟨_, 1, 1, rfl, InS.blk (sz := 3) (xs := [(⟨1, 0, 1⟩ : EntryI)]) (rows := [[.int .u8 1, .int .u8 0, .int .u32 1]]) h2 rfl (by simp) (fun i r x hr hx => by
      match i, hr, hx with
      | 0, hr, hx =>
        injection hr with hr
        injection hx with hx
        subst hr hx
        exact ⟨rfl, by decide, by decide, by decide⟩), Nat.le_refl _, by simp [maxLen]⟩
theorem one_in {S : Nat → Prop} {w0 : World} {b : Nat} {r : List Value} {l : ListI} (hr : r.length = 8) (h1 : Ro S w0 (blk b r 42)) (h2 : InList S w0 r l) : InS S w0 8 (InList S w0) (some ⟨b, 0, none⟩) 1 [l] :=
  InS.blk (xs := [l]) (rows := [r]) (by simpa using h1) rfl (by simpa using hr) (fun i r' x hr hx => by
    obtain rfl : i = 0 := by
      have := (List.getElem?_eq_some_iff.1 hr).1
      rw [List.length_singleton] at this
      omega
    obtain rfl : r = r' := by simpa using hr
    obtain rfl : l = x := by simpa using hx
    exact h2)
theorem shown14_small : ∀ l ∈ [shown14], SmallL l := fun l hl => by
  rw [List.mem_singleton] at hl
  subst hl
  exact ⟨by decide, by decide⟩
theorem sh1 : takeS nilS [shown14] 1 [5] = (nilS, false) := by decide +kernel
theorem sh2 : takeS nilS [shown14] 0 [6] = ([[[6]], [], [], []], true) := by decide +kernel
theorem sh3 : takeS [[[6]], [], [], []] [shown14] 1 [7] = ([[[6], [7]], [], [], []], true) := by decide +kernel
theorem sh4 : applyS [[[6], [7]], [], [], []] (newM ⟨4, [], []⟩) 0 shown14.tabs = ([[], [], [], []], ⟨[6, 7, 0, 0], []⟩, true) := by rfl
theorem sh5 : readM ⟨[6, 7, 0, 0], []⟩ 1 0 0 2 = ([6, 7], 0) := by rfl
theorem str67 : ((strOfNums [6, 7]).toList == (⟨#[6, 7]⟩ : ByteArray).toList) = true := by
  rw [ByteArray.toList_eq, ByteArray.toList_eq, strOfNums_data]
  rfl
attribute [local irreducible] blk row bytesA starL memA segA roB
attribute [local irreducible] stimA partA
set_option maxHeartbeats 4000000 in
theorem shown14_spec (w : World) : Calls Try.prog 14 #[] w (Ret w [] fun v B => v = .bool true ∧ B = []) := by
  refine enter (vs := []) Try.func14 rfl Try.ntmps14 rfl (Hold.nil w) ?_
  have s7 := str67
  (repeat (first | (refine i_dst ?_; (first | (refine i_assign ?_; refine l_q rfl rfl rfl (q_assign rfl) ?_) | (refine i_bldS ?_; refine l_bldS tab rfl rfl rfl rfl (by first | exact CellsOf.agg | exact CellsOf.one rfl) (by first | ((repeat (first | exact RepR.zero | exact AppR.nil | apply RepR.succ | apply AppR.cons)); done) | fail) (by first | ((repeat (first | exact FillR.nil | exact LSets.nil | exact LSet.zero | exact CellsOf.agg | exact rfl | exact CellsOf.one rfl | apply FillR.cons | apply LSets.cons | apply LSet.succ)); done) | fail) (fun w => by kernel_rfl) (fun _ => ?_)) | (refine l_q rfl rfl rfl (by ((apply iq_bld; ((exact q_bld tab rfl rfl rfl (by first | ((repeat (first | exact FillR.nil | exact LSets.nil | exact LSet.zero | exact CellsOf.agg | exact rfl | exact CellsOf.one rfl | apply FillR.cons | apply LSets.cons | apply LSet.succ)); done) | fail) (fun w => by kernel_rfl)))))) ?_))) | refine d_seq ?_ | refine c_region ?_ | refine l_nil ?_ | (refine i_q ?_; (refine d_then ?_))))
  rename_i b1 b2 b3 b4
  (refine l_call0 rfl rfl Try.func15 rfl (by decide) (fun w' h => new_spec _ ⟨4, [], []⟩ w' (InMap.ram 4)) (fun v B hv => ?_); obtain ⟨_, p, m, rfl, rfl, hm⟩ | ⟨hno, _⟩ := hv)
  rotate_left
  · exact absurd (okRam (by omega)) hno
  have hk : MmOk m.abs := by rw [hm]; exact newM_ok (okRam (by omega))
  (repeat (first | (refine i_dst ?_; (first | (refine i_move ?_; refine l_q rfl rfl rfl (q_move rfl) ?_) | (refine i_assign ?_; refine l_q rfl rfl rfl (q_assign rfl) ?_) | refine l_q rfl rfl rfl (by (exact q_extract rfl rfl)) ?_)) | refine d_seq ?_ | refine c_region ?_ | refine l_nil ?_ | (refine i_q ?_; (refine d_then ?_))))
  (refine l_call0 rfl rfl Try.func16 rfl (by decide) (fun w' h => snew_spec w') (fun v B hv => ?_); obtain ⟨q, rfl, rfl⟩ := hv)
  (repeat (first | (refine i_dst ?_; (first | (refine i_move ?_; refine l_q rfl rfl rfl (q_move rfl) ?_) | (refine i_assign ?_; refine l_q rfl rfl rfl (q_assign rfl) ?_) | (refine i_bin ?_; refine l_q rfl rfl rfl (by (first | exact q_neq rfl rfl | exact q_eqnil tab rfl rfl rfl)) ?_) | (refine i_bldS ?_; refine l_bldS tab rfl rfl rfl rfl (by first | exact CellsOf.agg | exact CellsOf.one rfl) (by first | ((repeat (first | exact RepR.zero | exact AppR.nil | apply RepR.succ | apply AppR.cons)); done) | fail) (by first | ((repeat (first | exact FillR.nil | exact LSets.nil | exact LSet.zero | exact CellsOf.agg | exact rfl | exact CellsOf.one rfl | apply FillR.cons | apply LSets.cons | apply LSet.succ)); done) | fail) (fun w => by kernel_rfl) (fun _ => ?_)) | (refine l_q rfl rfl rfl (by (first | exact q_pick_f rfl rfl | (apply iq_bld; ((exact q_bld tab rfl rfl rfl (by first | ((repeat (first | exact FillR.nil | exact LSets.nil | exact LSet.zero | exact CellsOf.agg | exact rfl | exact CellsOf.one rfl | apply FillR.cons | apply LSets.cons | apply LSet.succ)); done) | fail) (fun w => by kernel_rfl)))))) ?_))) | refine d_seq ?_ | refine c_region ?_ | refine l_nil ?_ | (refine i_q ?_; (refine d_then ?_)) | refine c_skip ?_ | (refine i_guard ?_; (refine l_gt rfl rfl rfl ?_)) | (refine i_cond ?_; (refine c_cf rfl (by (rfl)) ?_))))
  (refine l_call1 (X := stimA sT q [nilP, nilP, nilP, nilP]) (by first | ((repeat (first | exact Ext.head | apply Ext.tail)); done) | fail) rfl rfl Try.func17 rfl (by decide) (fun w' h => stake_spec h.split _ 1 1 [shown14] (one_in rfl (h.roHp (by first | ((repeat (first | exact List.Mem.head _ | apply List.Mem.tail)); done) | fail)) (shown14_in (h.roHp (Y := blk b1 [.int .u8 1, .int .u8 0, .int .u32 0] 38) (by first | ((repeat (first | exact List.Mem.head _ | apply List.Mem.tail)); done) | fail)) (h.roHp (Y := blk b2 [.int .u8 1, .int .u8 0, .int .u32 1] 38) (by first | ((repeat (first | exact List.Mem.head _ | apply List.Mem.tail)); done) | fail)) (h.roHp (by first | ((repeat (first | exact List.Mem.head _ | apply List.Mem.tail)); done) | fail)))) (Nat.le_refl _) (by simp [maxLen]) shown14_small 0 1 (by omega) _ 1 1 [5] (Ro.blkB (h.roHp (Y := blk _ (bv [5]) 5) (by exact List.Mem.head _)) (oct1 (by omega))) (by omega)) (fun v B hv => ?_); obtain ⟨x1, rfl, rfl, hx1⟩ := hv)
  rw [show absS [nilP, nilP, nilP, nilP] = nilS from rfl, sh1] at hx1 ⊢
  (repeat (first | (refine i_dst ?_; (first | (refine i_move ?_; refine l_q rfl rfl rfl (q_move rfl) ?_) | (refine i_assign ?_; refine l_q rfl rfl rfl (q_assign rfl) ?_) | (refine i_bldS ?_; refine l_bldS tab rfl rfl rfl rfl (by first | exact CellsOf.agg | exact CellsOf.one rfl) (by first | ((repeat (first | exact RepR.zero | exact AppR.nil | apply RepR.succ | apply AppR.cons)); done) | fail) (by first | ((repeat (first | exact FillR.nil | exact LSets.nil | exact LSet.zero | exact CellsOf.agg | exact rfl | exact CellsOf.one rfl | apply FillR.cons | apply LSets.cons | apply LSet.succ)); done) | fail) (fun w => by kernel_rfl) (fun _ => ?_)) | (refine l_q rfl rfl rfl (by ((apply iq_bld; ((exact q_bld tab rfl rfl rfl (by first | ((repeat (first | exact FillR.nil | exact LSets.nil | exact LSet.zero | exact CellsOf.agg | exact rfl | exact CellsOf.one rfl | apply FillR.cons | apply LSets.cons | apply LSet.succ)); done) | fail) (fun w => by kernel_rfl)))))) ?_))) | refine d_seq ?_ | refine c_region ?_ | refine l_nil ?_ | (refine i_q ?_; (refine d_then ?_))))
  (refine l_call1 (X := stimA sT q x1) (by first | ((repeat (first | exact Ext.head | apply Ext.tail)); done) | fail) rfl rfl Try.func17 rfl (by decide) (fun w' h => stake_spec h.split _ 1 1 [shown14] (one_in rfl (h.roHp (by first | ((repeat (first | exact List.Mem.head _ | apply List.Mem.tail)); done) | fail)) (shown14_in (h.roHp (Y := blk b1 [.int .u8 1, .int .u8 0, .int .u32 0] 38) (by first | ((repeat (first | exact List.Mem.head _ | apply List.Mem.tail)); done) | fail)) (h.roHp (Y := blk b2 [.int .u8 1, .int .u8 0, .int .u32 1] 38) (by first | ((repeat (first | exact List.Mem.head _ | apply List.Mem.tail)); done) | fail)) (h.roHp (by first | ((repeat (first | exact List.Mem.head _ | apply List.Mem.tail)); done) | fail)))) (Nat.le_refl _) (by simp [maxLen]) shown14_small 0 0 (by omega) _ 1 1 [6] (Ro.blkB (h.roHp (Y := blk _ (bv [6]) 5) (by exact List.Mem.head _)) (oct1 (by omega))) (by omega)) (fun v B hv => ?_); obtain ⟨x2, rfl, rfl, hx2⟩ := hv)
  rw [hx1, sh2] at hx2 ⊢
  (repeat (first | (refine i_dst ?_; (first | (refine i_move ?_; refine l_q rfl rfl rfl (q_move rfl) ?_) | (refine i_assign ?_; refine l_q rfl rfl rfl (q_assign rfl) ?_) | (refine i_bldS ?_; refine l_bldS tab rfl rfl rfl rfl (by first | exact CellsOf.agg | exact CellsOf.one rfl) (by first | ((repeat (first | exact RepR.zero | exact AppR.nil | apply RepR.succ | apply AppR.cons)); done) | fail) (by first | ((repeat (first | exact FillR.nil | exact LSets.nil | exact LSet.zero | exact CellsOf.agg | exact rfl | exact CellsOf.one rfl | apply FillR.cons | apply LSets.cons | apply LSet.succ)); done) | fail) (fun w => by kernel_rfl) (fun _ => ?_)) | (refine l_q rfl rfl rfl (by ((apply iq_bld; ((exact q_bld tab rfl rfl rfl (by first | ((repeat (first | exact FillR.nil | exact LSets.nil | exact LSet.zero | exact CellsOf.agg | exact rfl | exact CellsOf.one rfl | apply FillR.cons | apply LSets.cons | apply LSet.succ)); done) | fail) (fun w => by kernel_rfl)))))) ?_))) | refine d_seq ?_ | refine c_region ?_ | refine l_nil ?_ | (refine i_q ?_; (refine d_then ?_))))
  (refine l_call1 (X := stimA sT q x2) (by first | ((repeat (first | exact Ext.head | apply Ext.tail)); done) | fail) rfl rfl Try.func17 rfl (by decide) (fun w' h => stake_spec h.split _ 1 1 [shown14] (one_in rfl (h.roHp (by first | ((repeat (first | exact List.Mem.head _ | apply List.Mem.tail)); done) | fail)) (shown14_in (h.roHp (Y := blk b1 [.int .u8 1, .int .u8 0, .int .u32 0] 38) (by first | ((repeat (first | exact List.Mem.head _ | apply List.Mem.tail)); done) | fail)) (h.roHp (Y := blk b2 [.int .u8 1, .int .u8 0, .int .u32 1] 38) (by first | ((repeat (first | exact List.Mem.head _ | apply List.Mem.tail)); done) | fail)) (h.roHp (by first | ((repeat (first | exact List.Mem.head _ | apply List.Mem.tail)); done) | fail)))) (Nat.le_refl _) (by simp [maxLen]) shown14_small 0 1 (by omega) _ 1 1 [7] (Ro.blkB (h.roHp (Y := blk _ (bv [7]) 5) (by exact List.Mem.head _)) (oct1 (by omega))) (by omega)) (fun v B hv => ?_); obtain ⟨x3, rfl, rfl, hx3⟩ := hv)
  rw [hx2, sh3] at hx3 ⊢
  (repeat (first | (refine i_dst ?_; (first | (refine i_move ?_; refine l_q rfl rfl rfl (q_move rfl) ?_) | (refine i_assign ?_; refine l_q rfl rfl rfl (q_assign rfl) ?_) | (refine i_load ?_; refine l_q rfl rfl rfl (by ((exact q_ldN tab rfl rfl rfl rfl (by first | ((repeat (first | exact List.Mem.head _ | apply List.Mem.tail)); done) | fail) (by first | ((repeat (first | exact TakeR.nil | apply TakeR.cons | apply CutR.zero | apply CutR.skip)); done) | fail)))) ?_) | (refine i_ix ?_; refine l_q rfl rfl rfl (by (exact q_indexAddr tab rfl rfl rfl rfl (by omega))) ?_))) | refine d_seq ?_ | refine c_region ?_ | refine l_nil ?_ | (refine i_q ?_; (refine d_then ?_))))
  (refine l_call2 (X := stimA sT q x3) (Y := memA p m) (by first | ((repeat (first | exact Ext.head | apply Ext.tail)); done) | fail) (by first | ((repeat (first | exact Ext.head | apply Ext.tail)); done) | fail) rfl rfl Try.func18 rfl (by decide) (fun w' h => sapply_spec h.split hk 0 _ shown14 (shown14_in (h.roHp (Y := blk b1 [.int .u8 1, .int .u8 0, .int .u32 0] 38) (by first | ((repeat (first | exact List.Mem.head _ | apply List.Mem.tail)); done) | fail)) (h.roHp (Y := blk b2 [.int .u8 1, .int .u8 0, .int .u32 1] 38) (by first | ((repeat (first | exact List.Mem.head _ | apply List.Mem.tail)); done) | fail)) (h.roHp (by first | ((repeat (first | exact List.Mem.head _ | apply List.Mem.tail)); done) | fail))) (shown14_small _ (by simp))) (fun v B hv => ?_); obtain ⟨x4, m4, rfl, rfl, _, hm4⟩ := hv)
  rw [hx3, hm, sh4] at hm4 ⊢
  have hk4 : MmOk m4.abs := by rw [hm4]; exact ⟨by decide, by decide, fun s h => by simp at h⟩
  (repeat (first | (refine i_dst ?_; (first | (refine i_move ?_; refine l_q rfl rfl rfl (q_move rfl) ?_) | (refine i_assign ?_; refine l_q rfl rfl rfl (q_assign rfl) ?_))) | refine d_seq ?_ | refine c_region ?_ | refine l_nil ?_ | (refine i_q ?_; (refine d_then ?_))))
  (refine l_call0 rfl rfl Try.func19 rfl (by decide) (fun w' h => read_spec (m := m4) (Ro.empty (h.mem (by first | ((repeat (first | exact List.Mem.head _ | apply List.Mem.tail)); done) | fail))) hk4 1 0 0 2 (by omega) (by omega) (by omega) (by omega) (by omega)) (fun v B hv => ?_); obtain ⟨A3, c3, rfl, rfl⟩ := hv)
  rw [hm4, sh5]
  dsimp only
  (repeat (first | (refine i_dst ?_; (first | (refine i_move ?_; refine l_q rfl rfl rfl (q_move rfl) ?_) | (refine i_assign ?_; refine l_q rfl rfl rfl (q_assign rfl) ?_) | (refine i_bin ?_; refine l_q rfl rfl rfl (by (first | exact q_eql rfl rfl | exact q_eqs rfl rfl)) ?_) | (refine l_q rfl rfl rfl (by (first | exact q_extract rfl rfl | (apply iq_cv; ((exact q_str tab rfl rfl rfl rfl (fun w h => roB_of (h.mem (by first | ((repeat (first | exact List.Mem.head _ | apply List.Mem.tail)); done) | fail)))))) | exact q_not rfl | exact q_pick_t rfl rfl)) ?_))) | refine d_seq ?_ | refine c_region ?_ | refine l_nil ?_ | (refine i_q ?_; (refine d_then ?_)) | refine c_ret ?_ | (refine i_guard ?_; (refine l_gt rfl rfl rfl ?_))))
  exact t_hp (hp' := []) (fun w h => h.subl (by first | ((repeat (first | exact SubL.nil | apply SubL.keep | apply SubL.skip)); done) | fail)) (t_ret1 Try.results14 rfl ⟨by rw [s7], rfl⟩)
end Go.Proofs.Ytkeekkdaielipaa

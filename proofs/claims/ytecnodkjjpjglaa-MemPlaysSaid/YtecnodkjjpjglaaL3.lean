/-
  Layer 8, the statements' helpers: shown.
-/
import Derived.Test.YtecnodkjjpjglaaL2
set_option linter.unusedVariables false
set_option maxRecDepth 100000
namespace Go.Proofs.Ytecnodkjjpjglaa
open Go.RowKit
attribute [local irreducible] TL TC TQ TK TO Qt TA


theorem roB_blk {b : Nat} {l : List Int} {t : TypeId} {w : World} (h : (blk b (bv l) t).C w) (ho : Oct l) : (roB (some ⟨b, 0, none⟩) l.length l).C w :=
  ⟨rfl, ho, fun _ => ⟨b, 0, rfl, (blk b (bv l) t).lt h b rfl, fun j u hu => by rw [Nat.zero_add]; exact blk_cell h hu⟩⟩
theorem Ro.blkB {S : Nat → Prop} {w0 : World} {b : Nat} {l : List Int} {t : TypeId} (h : Ro S w0 (blk b (bv l) t)) (ho : Oct l) : Ro S w0 (roB (some ⟨b, 0, none⟩) l.length l) :=
  h.sub (fun h => roB_blk h ho) (fun x ⟨_, o, hx⟩ => by
    injection hx with hx
    injection hx with hx
    exact hx.symm)
theorem str7 : ((strOfNums [7]).toList == (⟨#[7]⟩ : ByteArray).toList) = true := by
  rw [ByteArray.toList_eq, ByteArray.toList_eq, strOfNums_data]
  rfl
theorem InBB.nil {S : Nat → Prop} {w0 : World} : InBB S w0 none 0 [] := ⟨rfl, [], ⟨⟨rfl, fun h => by omega⟩, fun b h => by have := h.1; omega⟩, fun i l h => by simp at h⟩
theorem oct1 {x : Int} (h : 0 ≤ x ∧ x ≤ 255) : Oct [x] := fun y hy => by simp at hy; subst hy; exact h
def shownX : MapI := ⟨0, [(4, 2)], [[7]]⟩
theorem shownX_ok : okMap shownX := ⟨by decide, by decide, by decide, by decide, fun i s h => by
  match i, h with
  | 0, h => injection h with h; subst h; exact ⟨by decide, by decide, by decide, by decide, by decide⟩⟩
attribute [local irreducible] blk row bytesA starL memA segA roB


set_option maxHeartbeats 8000000 in
theorem shown_spec (w : World) : Calls Try.prog 13 #[] w (Ret w [] fun v B => v = .bool true ∧ B = []) := by
  refine enter (vs := []) Try.func13 rfl Try.ntmps13 rfl (Hold.nil w) ?_
  have s7 := str7
  (repeat (first | (refine i_dst ?_; ((refine i_assign ?_; refine l_q rfl rfl rfl (q_assign rfl) ?_))) | refine c_seq (fun K hK => ?_) | refine c_region ?_ | refine l_nil ?_ | refine t_then ?_ | (refine i_k ?_; (((refine hK _ _ ?_; clear hK))))))
  refine l_q rfl rfl rfl (q_build (v := .agg #[.int .i64 4, .int .i64 2]) rfl (fun w => by kernel_rfl)) ?_
  refine l_op rfl (fun K hK => e_buildSlice (l := segCells [(4, 2)]) (e := 53) rfl rfl (fun w => by kernel_rfl) (fun b12 => hK _ _ ?_))
  clear hK
  refine l_op rfl (fun K hK => e_buildSlice (l := bv [7]) (e := 5) rfl rfl (fun w => by kernel_rfl) (fun b13 => hK _ _ ?_))
  clear hK
  refine l_op rfl (fun K hK => e_buildSlice (l := [.slice (some ⟨b13, 0, none⟩) 1 1]) (e := 37) rfl rfl (fun w => by kernel_rfl) (fun b14 => hK _ _ ?_))
  clear hK
  refine l_q rfl rfl rfl (q_build (v := .agg #[.int .i64 0, .slice (some ⟨b12, 0, none⟩) 1 1, .slice (some ⟨b14, 0, none⟩) 1 1]) rfl (fun w => by kernel_rfl)) ?_
  (refine l_op rfl (fun K hK => e_call0 rfl rfl Try.func14 rfl (by decide) (fun w' h => new_spec (.agg #[.int .i64 0, .slice (some ⟨b12, 0, none⟩) 1 1, .slice (some ⟨b14, 0, none⟩) 1 1]) shownX w' ⟨⟨_, 1, _, 1, 1, rfl, Nat.le_refl _, by simp [maxLen], Ro.empty (roV_blk (h.get (i := 2) rfl) rfl), ⟨rfl, _, Ro.empty (roV_blk (h.get (i := 0) rfl) rfl), fun i l hl => by
    match i, hl with
    | 0, hl => injection hl with hl; subst hl; exact ⟨_, 1, 1, rfl, Nat.le_refl _, by simp [maxLen], Ro.empty (roB_blk (h.get (i := 1) rfl) (oct1 (by omega)))⟩⟩, Nat.le_refl _, by simp [maxLen]⟩⟩) (fun v B hv => hK _ _ ?_)); clear hK; obtain ⟨_, p, m, rfl, rfl, hm⟩ | ⟨hno, _⟩ := hv)
  rotate_left
  · exact absurd shownX_ok hno
  have hk : MmOk m.abs := by rw [hm]; exact newM_ok shownX_ok
  have e1 : readM m.abs 1 1 0 1 = ([7], 0) := by rw [hm]; rfl
  have e2 : writeM m.abs 1 1 0 [9] = (m.abs, 81) := by rw [hm]; rfl
  (repeat (first | (refine i_dst ?_; (first | (refine i_move ?_; refine l_q rfl rfl rfl (q_move rfl) ?_) | (refine i_assign ?_; refine l_q rfl rfl rfl (q_assign rfl) ?_) | (refine i_bin ?_; refine l_q rfl rfl rfl (by (first | exact q_neq rfl rfl | exact q_eqnil tab rfl rfl rfl)) ?_) | refine l_q rfl rfl rfl (by (first | exact q_extract rfl rfl | exact q_pick_f rfl rfl)) ?_)) | refine c_seq (fun K hK => ?_) | refine c_region ?_ | refine l_nil ?_ | refine t_then ?_ | (refine i_k ?_; (((refine hK _ _ ?_; clear hK)))) | refine c_skip ?_ | (refine i_guard ?_; (refine l_gt rfl rfl rfl ?_)) | (refine i_cond ?_; (refine c_cf rfl (by (rfl)) ?_))))
  (refine l_op rfl (fun K hK => e_call0 rfl rfl Try.func26 rfl (by decide) (fun w' h => read_spec (m := m) (roHp0 h (i := 0) rfl) hk 1 1 0 1 (by omega) (by omega) (by omega) (by omega) (by omega)) (fun v B hv => hK _ _ ?_)); clear hK; obtain ⟨A2, c2, rfl, rfl⟩ := hv)
  rw [e1]
  dsimp only
  (repeat (first | (refine i_dst ?_; (first | (refine i_move ?_; refine l_q rfl rfl rfl (q_move rfl) ?_) | (refine i_assign ?_; refine l_q rfl rfl rfl (q_assign rfl) ?_) | refine l_q rfl rfl rfl (by (exact q_extract rfl rfl)) ?_)) | refine c_seq (fun K hK => ?_) | refine c_region ?_ | refine l_nil ?_ | refine t_then ?_ | (refine i_k ?_; (((refine hK _ _ ?_; clear hK))))))
  refine l_op rfl (fun K hK => e_buildSlice (l := bv [9]) (e := 5) rfl rfl (fun w => by kernel_rfl) (fun b9 => hK _ _ ?_))
  clear hK
  refine l_op rfl (fun K hK => e_call (A := [memA p m]) rfl rfl Try.func27 rfl (by decide) (fun w h => h.pick [2, 0, 1] rfl) (fun w' h => write_spec (h.split (A := [memA p m])) hk 1 1 0 _ 1 1 [9] (Ro.blkB (h.roHp (List.mem_of_getElem? (i := 0) rfl)) (oct1 (by omega))) (by omega) (by omega) (by omega) (by omega) (by omega)) (fun v B hv => hK _ _ ?_))
  obtain ⟨m1, rfl, hm1, rfl⟩ := hv
  clear hK
  rw [e2] at hm1 ⊢
  have hk1 : MmOk m1.abs := by rw [hm1]; exact hk
  have e3 : setM m1.abs 1 0 1 = (⟨[], [⟨4, [[7, 0, 0, 0], [0, 0, 0, 0]], 1, 0⟩]⟩, 0) := by rw [hm1, hm]; rfl
  (repeat (first | (refine i_dst ?_; (first | (refine i_move ?_; refine l_q rfl rfl rfl (q_move rfl) ?_) | (refine i_assign ?_; refine l_q rfl rfl rfl (q_assign rfl) ?_))) | refine c_seq (fun K hK => ?_) | refine c_region ?_ | refine l_nil ?_ | refine t_then ?_ | (refine i_k ?_; (((refine hK _ _ ?_; clear hK))))))
  refine l_op rfl (fun K hK => e_call (A := [memA p m1]) rfl rfl Try.func25 rfl (by decide) (fun w h => h.pick [0, 1, 2] rfl) (fun w' h => set_spec (h.split (A := [memA p m1])) hk1 1 0 1 (by omega)) (fun v B hv => hK _ _ ?_))
  obtain ⟨m2, rfl, hm2, rfl⟩ := hv
  clear hK
  rw [e3] at hm2 ⊢
  have hk2 : MmOk m2.abs := by have := setM_ok (who := 1) (seg := 0) (page := 1) hk1; rw [e3] at this; rw [hm2]; exact this
  have e4 : writeM m2.abs 1 1 0 [9] = (⟨[], [⟨4, [[7, 0, 0, 0], [9, 0, 0, 0]], 1, 0⟩]⟩, 0) := by rw [hm2]; rfl
  (repeat (first | (refine i_dst ?_; (first | (refine i_move ?_; refine l_q rfl rfl rfl (q_move rfl) ?_) | (refine i_assign ?_; refine l_q rfl rfl rfl (q_assign rfl) ?_))) | refine c_seq (fun K hK => ?_) | refine c_region ?_ | refine l_nil ?_ | refine t_then ?_ | (refine i_k ?_; (((refine hK _ _ ?_; clear hK))))))
  refine l_op rfl (fun K hK => e_buildSlice (l := bv [9]) (e := 5) rfl rfl (fun w => by kernel_rfl) (fun b8 => hK _ _ ?_))
  clear hK
  refine l_op rfl (fun K hK => e_call (A := [memA p m2]) rfl rfl Try.func27 rfl (by decide) (fun w h => h.pick [1, 0, 3] rfl) (fun w' h => write_spec (h.split (A := [memA p m2])) hk2 1 1 0 _ 1 1 [9] (Ro.blkB (h.roHp (List.mem_of_getElem? (i := 0) rfl)) (oct1 (by omega))) (by omega) (by omega) (by omega) (by omega) (by omega)) (fun v B hv => hK _ _ ?_))
  obtain ⟨m3, rfl, hm3, rfl⟩ := hv
  clear hK
  rw [e4] at hm3 ⊢
  have hk3 : MmOk m3.abs := by have := writeM_ok (who := 1) (area := 1) (at_ := 0) (x := [9]) hk2 (by omega); rw [e4] at this; rw [hm3]; exact this
  have e5 : readM m3.abs 2 1 0 1 = ([7], 0) := by rw [hm3]; rfl
  (repeat (first | (refine i_dst ?_; (first | (refine i_move ?_; refine l_q rfl rfl rfl (q_move rfl) ?_) | (refine i_assign ?_; refine l_q rfl rfl rfl (q_assign rfl) ?_))) | refine c_seq (fun K hK => ?_) | refine c_region ?_ | refine l_nil ?_ | refine t_then ?_ | (refine i_k ?_; (((refine hK _ _ ?_; clear hK))))))
  (refine l_op rfl (fun K hK => e_call0 rfl rfl Try.func26 rfl (by decide) (fun w' h => read_spec (m := m3) (roHp0 h (i := 0) rfl) hk3 2 1 0 1 (by omega) (by omega) (by omega) (by omega) (by omega)) (fun v B hv => hK _ _ ?_)); clear hK; obtain ⟨A3, c3, rfl, rfl⟩ := hv)
  rw [e5]
  dsimp only
  (repeat (first | (refine i_dst ?_; (first | (refine i_move ?_; refine l_q rfl rfl rfl (q_move rfl) ?_) | (refine i_assign ?_; refine l_q rfl rfl rfl (q_assign rfl) ?_) | (refine i_bin ?_; refine l_q rfl rfl rfl (by (first | exact q_eql rfl rfl | exact q_eqs rfl rfl)) ?_) | refine l_q rfl rfl rfl (by (first | exact q_extract rfl rfl | exact q_pick_t rfl rfl | exact q_str tab rfl rfl rfl rfl (fun w h => roB_of (h.get (i := 0) rfl)) | exact q_str tab rfl rfl rfl rfl (fun w h => roB_of (h.get (i := 3) rfl)))) ?_)) | refine c_seq (fun K hK => ?_) | refine c_region ?_ | refine l_nil ?_ | refine t_then ?_ | (refine i_k ?_; (((refine hK _ _ ?_; clear hK)))) | refine c_ret ?_ | (refine i_guard ?_; (first | refine l_gt rfl rfl rfl ?_ | refine l_gtd rfl rfl rfl (by (assumption)) ?_))))
  exact t_hp (hp' := []) (fun w h => h.pick [] rfl) (t_ret1 Try.results13 rfl ⟨by rw [s7], rfl⟩)
end Go.Proofs.Ytecnodkjjpjglaa

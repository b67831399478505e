/-
  Layer 8: a nil Mem.
-/
import Derived.Test.YtecnodkjjpjglaaM9
set_option linter.unusedVariables false
set_option maxRecDepth 100000
namespace Go.Proofs.Ytecnodkjjpjglaa
open Go.RowKit
attribute [local irreducible] TL TC TQ TK TO Qt TA

attribute [local irreducible] blk row bytesA starL memA segA roB


theorem part_nil (w : World) (who area : Nat) (at_ n : Int) :
    Calls Try.prog 48 #[.pointer none, .int .u8 who, .int .u8 area, .int .u32 at_, .int .i64 n] w (Ret w [] fun v B => v = .tuple #[.slice none 0 0, .bool false, .int .i64 2] ∧ B = []) := by
  refine enter (vs := [.pointer none, .int .u8 who, .int .u8 area, .int .u32 at_, .int .i64 n]) Try.func48 rfl Try.ntmps48 rfl (Hold.nil w) ?_
  (repeat (first | (refine i_dst ?_; (first | (refine i_move ?_; refine l_q rfl rfl rfl (q_move rfl) ?_) | (refine i_assign ?_; refine l_q rfl rfl rfl (q_assign rfl) ?_) | (refine i_bin ?_; refine l_q rfl rfl rfl (by (exact q_eqnil tab rfl rfl rfl)) ?_))) | refine d_seq ?_ | refine c_region ?_ | refine l_nil ?_ | refine c_block ?_ | (refine i_q ?_; (first | refine d_then ?_ | refine d_then_ret ?_ | refine t_block_ret ?_)) | refine c_ret ?_ | (refine i_cond ?_; (refine c_ct rfl (by (rfl)) ?_))))
  exact t_ret3 Try.results48 rfl rfl rfl ⟨rfl, rfl⟩
theorem read_nil (w : World) (who area : Nat) (at_ n : Int) :
    Calls Try.prog 26 #[.pointer none, .int .u8 who, .int .u8 area, .int .u32 at_, .int .i64 n] w (Ret w [] fun v B => ∃ A c, v = .tuple #[.slice A 0 c, .int .i64 2] ∧ B = []) := by
  refine enter (vs := [.pointer none, .int .u8 who, .int .u8 area, .int .u32 at_, .int .i64 n]) Try.func26 rfl Try.ntmps26 rfl (Hold.nil w) ?_
  (repeat (first | (refine i_dst ?_; (first | (refine i_move ?_; refine l_q rfl rfl rfl (q_move rfl) ?_) | (refine i_assign ?_; refine l_q rfl rfl rfl (q_assign rfl) ?_))) | refine d_seq ?_ | refine c_region ?_ | refine l_nil ?_ | (refine i_q ?_; (refine d_then ?_))))
  (refine l_call0 rfl rfl Try.func48 rfl (by decide) (fun w' h => part_nil w' who area at_ n) (fun v B hv => ?_); obtain ⟨rfl, rfl⟩ := hv)
  (repeat (first | (refine i_dst ?_; (first | (refine i_move ?_; refine l_q rfl rfl rfl (q_move rfl) ?_) | (refine i_assign ?_; refine l_q rfl rfl rfl (q_assign rfl) ?_) | refine l_q rfl rfl rfl (by (exact q_extract rfl rfl)) ?_)) | refine d_seq ?_ | refine c_region ?_ | refine l_nil ?_ | (refine i_q ?_; (refine d_then ?_))))
  (refine l_call0 rfl rfl Try.func49 rfl (by decide) (fun w' h => clone_spec none 0 0 [] w' (roB_nil w') (by omega)) (fun v B hv => ?_); obtain ⟨A', c', rfl, rfl⟩ := hv)
  (repeat (first | (refine i_dst ?_; (first | (refine i_move ?_; refine l_q rfl rfl rfl (q_move rfl) ?_) | (refine i_assign ?_; refine l_q rfl rfl rfl (q_assign rfl) ?_))) | refine l_nil ?_ | (refine i_q ?_; (refine d_then ?_)) | refine c_ret ?_))
  exact t_hp (hp' := []) (fun w h => h.pick [] rfl) (t_ret2 Try.results26 rfl rfl ⟨A', c', rfl, rfl⟩)
theorem write_nil (w : World) (who area : Nat) (at_ : Int) (A : Option Addr) (n c : Nat) :
    Calls Try.prog 27 #[.pointer none, .int .u8 who, .int .u8 area, .int .u32 at_, .slice A n c] w (Ret w [] fun v B => v = .int .i64 2 ∧ B = []) := by
  refine enter (vs := [.pointer none, .int .u8 who, .int .u8 area, .int .u32 at_, .slice A n c]) Try.func27 rfl Try.ntmps27 rfl (Hold.nil w) ?_
  (repeat (first | (refine i_dst ?_; (first | (refine i_move ?_; refine l_q rfl rfl rfl (q_move rfl) ?_) | (refine i_assign ?_; refine l_q rfl rfl rfl (q_assign rfl) ?_) | (refine i_blt ?_; refine l_q rfl rfl rfl (by (exact q_len tab rfl rfl)) ?_))) | refine d_seq ?_ | refine c_region ?_ | refine l_nil ?_ | (refine i_q ?_; (refine d_then ?_))))
  (refine l_call0 rfl rfl Try.func48 rfl (by decide) (fun w' h => part_nil w' who area at_ n) (fun v B hv => ?_); obtain ⟨rfl, rfl⟩ := hv)
  (repeat (first | (refine i_dst ?_; (first | (refine i_move ?_; refine l_q rfl rfl rfl (q_move rfl) ?_) | (refine i_assign ?_; refine l_q rfl rfl rfl (q_assign rfl) ?_) | (refine i_bin ?_; refine l_q rfl rfl rfl (by (exact q_neq rfl rfl)) ?_) | refine l_q rfl rfl rfl (by (exact q_extract rfl rfl)) ?_)) | refine d_seq ?_ | refine c_region ?_ | refine l_nil ?_ | refine c_block ?_ | (refine i_q ?_; (first | refine d_then ?_ | refine d_then_ret ?_ | refine t_block_ret ?_)) | refine c_ret ?_ | (refine i_cond ?_; (refine c_ct rfl (by (rfl)) ?_))))
  exact t_ret1 Try.results27 rfl ⟨rfl, rfl⟩
theorem page_nil (w : World) (who : Nat) (seg : Int) :
    Calls Try.prog 29 #[.pointer none, .int .u8 who, .int .i64 seg] w (Ret w [] fun v B => v = .tuple #[.int .i64 0, .int .i64 2] ∧ B = []) := by
  refine enter (vs := [.pointer none, .int .u8 who, .int .i64 seg]) Try.func29 rfl Try.ntmps29 rfl (Hold.nil w) ?_
  (repeat (first | (refine i_dst ?_; (first | (refine i_move ?_; refine l_q rfl rfl rfl (q_move rfl) ?_) | (refine i_assign ?_; refine l_q rfl rfl rfl (q_assign rfl) ?_) | (refine i_bin ?_; refine l_q rfl rfl rfl (by (exact q_eqnil tab rfl rfl rfl)) ?_))) | refine d_seq ?_ | refine c_region ?_ | refine l_nil ?_ | refine c_block ?_ | (refine i_q ?_; (first | refine d_then ?_ | refine d_then_ret ?_ | refine t_block_ret ?_)) | refine c_ret ?_ | (refine i_cond ?_; (refine c_ct rfl (by (rfl)) ?_))))
  exact t_ret2 Try.results29 rfl rfl ⟨rfl, rfl⟩
theorem set_nil (w : World) (who : Nat) (seg page : Int) :
    Calls Try.prog 25 #[.pointer none, .int .u8 who, .int .i64 seg, .int .i64 page] w (Ret w [] fun v B => v = .int .i64 2 ∧ B = []) := by
  refine enter (vs := [.pointer none, .int .u8 who, .int .i64 seg, .int .i64 page]) Try.func25 rfl Try.ntmps25 rfl (Hold.nil w) ?_
  (repeat (first | (refine i_dst ?_; (first | (refine i_move ?_; refine l_q rfl rfl rfl (q_move rfl) ?_) | (refine i_assign ?_; refine l_q rfl rfl rfl (q_assign rfl) ?_) | (refine i_bin ?_; refine l_q rfl rfl rfl (by (exact q_eqnil tab rfl rfl rfl)) ?_))) | refine d_seq ?_ | refine c_region ?_ | refine l_nil ?_ | refine c_block ?_ | (refine i_q ?_; (first | refine d_then ?_ | refine d_then_ret ?_ | refine t_block_ret ?_)) | refine c_ret ?_ | (refine i_cond ?_; (refine c_ct rfl (by (rfl)) ?_))))
  exact t_hp (hp' := []) (fun w h => h.pick [] rfl) (t_ret1 Try.results25 rfl ⟨rfl, rfl⟩)
theorem copy_nil (w : World) (seg a b : Int) :
    Calls Try.prog 28 #[.pointer none, .int .i64 seg, .int .i64 a, .int .i64 b] w (Ret w [] fun v B => v = .int .i64 2 ∧ B = []) := by
  refine enter (vs := [.pointer none, .int .i64 seg, .int .i64 a, .int .i64 b]) Try.func28 rfl Try.ntmps28 rfl (Hold.nil w) ?_
  (repeat (first | (refine i_dst ?_; (first | (refine i_move ?_; refine l_q rfl rfl rfl (q_move rfl) ?_) | (refine i_assign ?_; refine l_q rfl rfl rfl (q_assign rfl) ?_) | (refine i_bin ?_; refine l_q rfl rfl rfl (by (exact q_eqnil tab rfl rfl rfl)) ?_))) | refine d_seq ?_ | refine c_region ?_ | refine l_nil ?_ | (refine i_q ?_; (first | refine d_then ?_ | refine d_then_ret ?_)) | refine c_ret ?_ | (refine i_cond ?_; (refine c_ct rfl (by (rfl)) ?_))))
  exact t_hp (hp' := []) (fun w h => h.pick [] rfl) (t_ret1 Try.results28 rfl ⟨rfl, rfl⟩)
theorem mclone_nil (w : World) :
    Calls Try.prog 37 #[.pointer none] w (Ret w [] fun v B => v = .pointer none ∧ B = []) := by
  refine enter (vs := [.pointer none]) Try.func37 rfl Try.ntmps37 rfl (Hold.nil w) ?_
  (repeat (first | (refine i_dst ?_; (first | (refine i_move ?_; refine l_q rfl rfl rfl (q_move rfl) ?_) | (refine i_assign ?_; refine l_q rfl rfl rfl (q_assign rfl) ?_) | (refine i_bin ?_; refine l_q rfl rfl rfl (by (exact q_eqnil tab rfl rfl rfl)) ?_))) | refine d_seq ?_ | refine c_region ?_ | refine l_nil ?_ | (refine i_q ?_; (first | refine d_then ?_ | refine d_then_ret ?_)) | refine c_ret ?_ | (refine i_cond ?_; (refine c_ct rfl (by (rfl)) ?_))))
  exact t_hp (hp' := []) (fun w h => h.pick [] rfl) (t_ret1 Try.results37 rfl ⟨rfl, rfl⟩)
end Go.Proofs.Ytecnodkjjpjglaa

/-
  cmd.Shape, needs, walked.
-/
import Derived.Test.YtidekbijkknlmaaSLk
import Derived.Test.YtidekbijkknlmaaI2
import Derived.Test.YtidekbijkknlmaaM8
set_option linter.unusedVariables false
set_option maxRecDepth 100000
namespace Go.Proofs.Ytidekbijkknlmaa
open Go.RowKit
attribute [local irreducible] TL TC TQ TK TO Qt TA
/-- How many small numbers, whether a great one, how many bytes. -/
def shapeM : Nat → Option (Nat × Bool × Nat)
  | 1 => some (1, false, 0)
  | 2 => some (0, false, 0)
  | 3 => some (0, false, 0)
  | 4 => some (0, false, 0)
  | 5 => some (1, true, 0)
  | 6 => some (1, false, 0)
  | 7 => some (2, true, 0)
  | 8 => some (1, false, 6)
  | 9 => some (1, false, 6)
  | 10 => some (0, false, 7)
  | 11 => some (1, true, 0)
  | 12 => some (2, false, 0)
  | 13 => some (1, false, 6)
  | 14 => some (1, true, 0)
  | 15 => some (3, false, 0)
  | 16 => some (2, false, 0)
  | 17 => some (3, false, 0)
  | 18 => some (0, false, 0)
  | 19 => some (1, false, 0)
  | 20 => some (2, false, 0)
  | 21 => some (3, false, 0)
  | 22 => some (3, false, 0)
  | 23 => some (2, true, 0)
  | 24 => some (5, false, 0)
  | 25 => some (2, false, 0)
  | 26 => some (1, false, 0)
  | _ => none
def shV : Option (Nat × Bool × Nat) → Value
  | some (s, g, n) => .tuple #[.int .i64 s, .bool g, .int .i64 n, .bool true]
  | none => .tuple #[.int .i64 0, .bool false, .int .i64 0, .bool false]
/-- The shapes that there are. -/
theorem shape_some {code s n : Nat} {g : Bool} (h : shapeM code = some (s, g, n)) : (s ≤ 5 ∧ (n = 0 ∨ n = 6 ∨ n = 7)) ∧ (g = true → s ≤ 2 ∧ n = 0) ∧ (n = 6 → s = 1) ∧ (n = 7 → s = 0) ∧ code ≤ 26 := by
  unfold shapeM at h
  split at h <;> first | (cases h; done) | (injection h with h; injection h with h1 h; injection h with h2 h3; subst h1 h2 h3; refine ⟨⟨by omega, by omega⟩, fun h => by first | (cases h; done) | omega, fun h => by omega, fun h => by omega, by omega⟩)
theorem shapeM_none {code : Nat} (h : code = 0 ∨ 27 ≤ code) : shapeM code = none := by
  unfold shapeM
  split <;> first | rfl | (exfalso; omega)
attribute [local irreducible] blk row bytesA starL memA segA roB
set_option maxHeartbeats 16000000 in
theorem shape_spec (code : Nat) (hc : code ≤ 255) (w : World) : Calls Try.prog 39 #[.int .u8 code] w (Ret w [] fun v B => v = shV (shapeM code) ∧ B = []) := by
  by_cases h0 : code = 0 ∨ 27 ≤ code
  · rw [shapeM_none h0]
    refine enter (vs := [.int .u8 code]) Try.func39 rfl Try.ntmps39 rfl (Hold.nil w) ?_
    (repeat (first | (refine i_dst ?_; (first | (refine i_move ?_; refine l_q rfl rfl rfl (q_move rfl) ?_) | (refine i_assign ?_; refine l_q rfl rfl rfl (q_assign rfl) ?_) | (refine i_bin ?_; refine l_q rfl rfl rfl (by (exact q_eql rfl rfl)) ?_))) | refine d_seq ?_ | refine c_region ?_ | refine l_nil ?_ | refine c_block ?_ | (refine i_q ?_; (first | refine d_then ?_ | refine d_then_ret ?_ | refine t_block_ret ?_)) | refine c_ret ?_ | (refine i_cond ?_; (refine c_cf rfl (by (exact decide_eq_false (by omega))) ?_))))
    exact t_ret4 Try.results39 rfl rfl rfl rfl ⟨rfl, rfl⟩
  · refine enter (vs := [.int .u8 code]) Try.func39 rfl Try.ntmps39 rfl (Hold.nil w) ?_
    rcases (by omega : code = 1 ∨ code = 2 ∨ code = 3 ∨ code = 4 ∨ code = 5 ∨ code = 6 ∨ code = 7 ∨ code = 8 ∨ code = 9 ∨ code = 10 ∨ code = 11 ∨ code = 12 ∨ code = 13 ∨ code = 14 ∨ code = 15 ∨ code = 16 ∨ code = 17 ∨ code = 18 ∨ code = 19 ∨ code = 20 ∨ code = 21 ∨ code = 22 ∨ code = 23 ∨ code = 24 ∨ code = 25 ∨ code = 26) with rfl | rfl | rfl | rfl | rfl | rfl | rfl | rfl | rfl | rfl | rfl | rfl | rfl | rfl | rfl | rfl | rfl | rfl | rfl | rfl | rfl | rfl | rfl | rfl | rfl | rfl
    all_goals (
      (repeat (first | (refine i_dst ?_; (first | (refine i_move ?_; refine l_q rfl rfl rfl (q_move rfl) ?_) | (refine i_assign ?_; refine l_q rfl rfl rfl (q_assign rfl) ?_) | (refine i_bin ?_; refine l_q rfl rfl rfl (by (exact q_eql rfl rfl)) ?_))) | refine d_seq ?_ | refine c_region ?_ | refine l_nil ?_ | refine c_block ?_ | (refine i_q ?_; (first | refine d_then ?_ | refine t_block ?_)) | refine c_skip ?_ | refine c_ret ?_ | (refine i_cond ?_; (first | refine c_ct rfl (by (rfl)) ?_ | refine c_cf rfl (by (rfl)) ?_))))
      exact t_ret4 Try.results39 rfl rfl rfl rfl ⟨rfl, rfl⟩)
def needsC (n a0 : Nat) : Nat := if n = 6 then min 6 a0 else n
theorem cneeds_spec (code a0 a1 a2 a3 a4 w32 : Nat) (h0 : a0 ≤ 255) (u : Value) (n : Nat) (w : World) (hu : u.oneCell' = true) : Calls Try.prog 49 #[.agg #[.int .u8 code, .int .u8 a0, .int .u8 a1, .int .u8 a2, .int .u8 a3, .int .u8 a4, .int .u32 w32, u], .int .i64 n] w (Ret w [] fun v B => v = .int .i64 (needsC n a0 : Nat) ∧ B = []) := by
  refine enter (vs := [.agg #[.int .u8 code, .int .u8 a0, .int .u8 a1, .int .u8 a2, .int .u8 a3, .int .u8 a4, .int .u32 w32, u], .int .i64 n]) Try.func49 rfl Try.ntmps49 rfl (Hold.nil w) ?_
  unfold needsC
  by_cases h6 : n = 6
  · subst h6
    rw [if_pos rfl]
    (repeat (first | (refine i_dst ?_; (first | (refine i_move ?_; refine l_q rfl rfl rfl (q_move rfl) ?_) | (refine i_assign ?_; refine l_q rfl rfl rfl (q_assign rfl) ?_) | (refine i_load ?_; refine l_q rfl rfl rfl (by ((exact q_ld1 tab rfl rfl rfl (by first | ((repeat (first | exact List.Mem.head _ | apply List.Mem.tail)); done) | fail) (by (rfl))))) ?_) | (refine i_bin ?_; refine l_q rfl rfl rfl (by (exact q_eql rfl rfl)) ?_) | (refine i_blt ?_; refine l_q rfl rfl rfl (by (exact q_minN rfl rfl)) ?_) | (refine i_ix ?_; refine l_q rfl rfl rfl (by (exact q_indexAddrA1 tab rfl rfl rfl rfl (by omega))) ?_) | (refine i_box ?_; (refine l_boxA rfl rfl (fun _ => ?_))) | (refine l_q rfl rfl rfl (by (first | (apply iq_fld; (exact q_fieldAddr tab rfl rfl rfl rfl rfl rfl rfl)) | (apply iq_cv; (exact q_conv tab rfl rfl rfl (by (exact wr_i64 (by omega))))))) ?_))) | refine d_seq ?_ | refine c_region ?_ | refine l_nil ?_ | (refine i_q ?_; (first | refine d_then ?_ | refine d_then_ret ?_)) | refine c_ret ?_ | (refine i_cond ?_; (refine c_ct rfl (by (rfl)) ?_))))
    exact t_hp (hp' := []) (fun w h => h.psub (by first | ((repeat (first | exact PSub.nil | exact Ext.head | apply Ext.tail | apply PSub.cons)); done) | fail)) (t_ret1 Try.results49 rfl ⟨rfl, rfl⟩)
  · rw [if_neg h6]
    (repeat (first | (refine i_dst ?_; (first | (refine i_move ?_; refine l_q rfl rfl rfl (q_move rfl) ?_) | (refine i_assign ?_; refine l_q rfl rfl rfl (q_assign rfl) ?_) | (refine i_bin ?_; refine l_q rfl rfl rfl (by (exact q_eql rfl rfl)) ?_) | (refine i_box ?_; (refine l_boxA rfl rfl (fun _ => ?_))))) | refine d_seq ?_ | refine c_region ?_ | refine l_nil ?_ | (refine i_q ?_; (refine d_then ?_)) | refine c_skip ?_ | refine c_ret ?_ | (refine i_cond ?_; (refine c_cf rfl (by (exact decide_eq_false (by omega))) ?_))))
    exact t_hp (hp' := []) (fun w h => h.psub (by first | ((repeat (first | exact PSub.nil | exact Ext.head | apply Ext.tail | apply PSub.cons)); done) | fail)) (t_ret1 Try.results49 rfl ⟨rfl, rfl⟩)
end Go.Proofs.Ytidekbijkknlmaa

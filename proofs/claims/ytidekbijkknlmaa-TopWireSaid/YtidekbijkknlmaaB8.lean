/-
  The bus, walked, for one frame and two nodes.
-/
import Derived.Test.YtidekbijkknlmaaB7
set_option linter.unusedVariables false
set_option maxRecDepth 100000
namespace Go.Proofs.Ytidekbijkknlmaa
open Go.RowKit
attribute [local irreducible] TL TC TQ TK TO Qt TA
def bT : Nat → Bool
  | 0 => false
  | _ + 1 => true
theorem bT0 : bT 0 = false := rfl
theorem bT1 : bT 1 = true := rfl
theorem bT2 : bT 2 = true := rfl
def cT (a b : List Value) : Nat → List Value
  | 0 => a
  | _ + 1 => b
theorem cT0 (a b : List Value) : cT a b 0 = a := rfl
theorem cT1 (a b : List Value) : cT a b 1 = b := rfl
theorem cT2 (a b : List Value) : cT a b 2 = b := rfl
def pH {fn f0 f1 f2 f3 f4 f5 f6 f7 : Int} (p cf : Nat) (Af : Option Addr) (t : Nat × Value × Option Addr × Nat) : List Asn := match t with
  | (0, _, _, _) => [blk p [.slice Af 1 cf, .slice none 0 0, .slice none 0 0, .bool false] 174, row 120 3 (.slice Af 1 cf) 1 [.int .u32 2047, .int .u32 5, .bool false]]
  | (_ + 1, u, A, c) => [blk p [u, .slice none 0 0, .slice A 1 c, .bool false] 174, row 124 11 (.slice A 1 c) 1 [.int .u32 5, .bool false, .int .i64 fn, .int .u8 f0, .int .u8 f1, .int .u8 f2, .int .u8 f3, .int .u8 f4, .int .u8 f5, .int .u8 f6, .int .u8 f7]]
theorem pH0 {fn f0 f1 f2 f3 f4 f5 f6 f7 : Int} {p cf c : Nat} {Af A : Option Addr} {u : Value} : pH (fn := fn) (f0 := f0) (f1 := f1) (f2 := f2) (f3 := f3) (f4 := f4) (f5 := f5) (f6 := f6) (f7 := f7) p cf Af (0, u, A, c) = [blk p [.slice Af 1 cf, .slice none 0 0, .slice none 0 0, .bool false] 174, row 120 3 (.slice Af 1 cf) 1 [.int .u32 2047, .int .u32 5, .bool false]] := rfl
theorem pH1 {fn f0 f1 f2 f3 f4 f5 f6 f7 : Int} {p cf c : Nat} {Af A : Option Addr} {u : Value} : pH (fn := fn) (f0 := f0) (f1 := f1) (f2 := f2) (f3 := f3) (f4 := f4) (f5 := f5) (f6 := f6) (f7 := f7) p cf Af (1, u, A, c) = [blk p [u, .slice none 0 0, .slice A 1 c, .bool false] 174, row 124 11 (.slice A 1 c) 1 [.int .u32 5, .bool false, .int .i64 fn, .int .u8 f0, .int .u8 f1, .int .u8 f2, .int .u8 f3, .int .u8 f4, .int .u8 f5, .int .u8 f6, .int .u8 f7]] := rfl
attribute [local irreducible] blk row bytesA starL memA segA roB
set_option maxHeartbeats 8000000 in
theorem first_spec {fn f0 f1 f2 f3 f4 f5 f6 f7 : Int} {w : World} {gl px py c : Nat} {A : Option Addr} {u : Value} (hl : (blk gl [.pointer (some ⟨px, 0, none⟩), .pointer (some ⟨py, 0, none⟩)] 116).C w) (h0 : (blk px [.slice none 0 0, .slice A 1 c, .slice none 0 0, .bool false] 174).C w) (h1 : (row 124 11 (.slice A 1 c) 1 [.int .u32 5, .bool false, .int .i64 fn, .int .u8 f0, .int .u8 f1, .int .u8 f2, .int .u8 f3, .int .u8 f4, .int .u8 f5, .int .u8 f6, .int .u8 f7]).C w) (h2 : (blk py [u, .slice none 0 0, .slice none 0 0, .bool false] 174).C w) : Calls Try.prog 70 #[.slice (some ⟨gl, 0, none⟩) 2 2] w (Ret w [] fun v B => v = .tuple #[.int .i64 0, .agg #[.int .u32 5, .bool false, .int .i64 fn, .int .u8 f0, .int .u8 f1, .int .u8 f2, .int .u8 f3, .int .u8 f4, .int .u8 f5, .int .u8 f6, .int .u8 f7], .bool true] ∧ B = []) := by
  refine enter (vs := [.slice (some ⟨gl, 0, none⟩) 2 2]) Try.func70 rfl Try.ntmps70 rfl (Hold.nil w) ?_
  have hmx : maxLen = 2 ^ 63 - 1 := rfl
  have c1 : ∀ hp w', St (fps []) w hp w' → w'.cell? ⟨gl, 0, none⟩ = some (.pointer (some ⟨px, 0, none⟩)) := fun hp w' h => blk_cell (h.ro (Ro.empty hl)) rfl
  have c2 : ∀ hp w', St (fps []) w hp w' → w'.cell? ⟨gl, 1, none⟩ = some (.pointer (some ⟨py, 0, none⟩)) := fun hp w' h => blk_cell (h.ro (Ro.empty hl)) rfl
  (repeat (first | (refine i_dst ?_; (first | (refine i_move ?_; refine l_q rfl rfl rfl (q_move rfl) ?_) | (refine i_assign ?_; refine l_q rfl rfl rfl (q_assign rfl) ?_) | (refine i_blt ?_; refine l_q rfl rfl rfl (by (exact q_len tab rfl rfl)) ?_) | (refine i_alloc ?_; (refine l_allocA tab rfl rfl (fun _ => ?_))))) | refine d_seq ?_ | refine c_region ?_ | refine l_nil ?_ | refine c_block ?_ | (refine i_q ?_; (refine d_then ?_))))
  rename_i b3 b5
  refine d_loop (T := Nat) [3, 5, 12, 13] (fun t => [(14, .int .i64 (t : Nat)), (6, .int .i64 0), (7, .bool (bT t))]) [blk b3 [.int .u32 0, .bool false, .int .i64 0, .int .u8 0, .int .u8 0, .int .u8 0, .int .u8 0, .int .u8 0, .int .u8 0, .int .u8 0, .int .u8 0] 124] (fun t => [blk b5 (cT [.int .u32 0, .bool false, .int .i64 0, .int .u8 0, .int .u8 0, .int .u8 0, .int .u8 0, .int .u8 0, .int .u8 0, .int .u8 0, .int .u8 0] [.int .u32 5, .bool false, .int .i64 fn, .int .u8 f0, .int .u8 f1, .int .u8 f2, .int .u8 f3, .int .u8 f4, .int .u8 f5, .int .u8 f6, .int .u8 f7] t) 124]) (fun t => t ≤ 2) (fun t => 2 - t) 0 (by first | ((repeat (first | exact Pick.nil | exact rfl | apply Pick.cons)); done) | fail) (by omega) (by first | ((repeat (first | exact trivial | exact rfl | apply Sub.cons | exact look_int rfl (by omega) | exact look_int rfl (by simp) | exact look_int rfl (by simp; omega))); done) | fail) (fun w h => h.psub (by first | ((repeat (first | exact PSub.nil | exact Ext.head | apply Ext.tail | apply PSub.cons)); done) | fail)) ?_
  intro t ht
  rcases (by omega : t = 0 ∨ t = 1 ∨ t = 2) with rfl | rfl | rfl
  · rw [bT0, cT0]
    (repeat (first | (refine i_dst ?_; (first | (refine i_move ?_; refine l_q rfl rfl rfl (q_move rfl) ?_) | (refine i_assign ?_; refine l_q rfl rfl rfl (q_assign rfl) ?_) | (refine i_load ?_; refine l_q rfl rfl rfl (by (exact q_ldc tab rfl rfl rfl (by assumption))) ?_) | (refine i_bin ?_; refine l_q rfl rfl rfl (by (exact q_lss rfl rfl)) ?_) | (refine i_ix ?_; refine l_q rfl rfl rfl (by (exact q_indexAddr1 tab rfl rfl rfl rfl (by omega))) ?_))) | refine d_seq ?_ | refine c_region ?_ | refine l_nil ?_ | refine c_block ?_ | (refine i_q ?_; (refine d_then ?_)) | refine c_skip ?_ | (refine i_cond ?_; (refine c_ct rfl (by (rfl)) ?_))))
    (refine l_call0 rfl rfl Try.func85 rfl (by decide) (fun w' h => next_some (h.ro (Ro.empty h0)) (h.ro (Ro.empty h1))) (fun v B hv => ?_); obtain ⟨rfl, rfl⟩ := hv)
    (repeat (first | (refine i_dst ?_; (first | (refine i_move ?_; refine l_q rfl rfl rfl (q_move rfl) ?_) | (refine i_assign ?_; refine l_q rfl rfl rfl (q_assign rfl) ?_) | (refine i_alloc ?_; (refine l_allocA tab rfl rfl (fun _ => ?_))) | refine l_q rfl rfl rfl (by (exact q_extract rfl rfl)) ?_)) | refine d_seq ?_ | refine l_nil ?_ | (refine i_q ?_; (refine d_then ?_)) | (refine i_store ?_; ((refine l_setN tab rfl rfl rfl rfl (List.cons_ne_nil _ _) rfl (by first | ((repeat (first | exact Upd.head | apply Upd.tail)); done) | fail) (by first | ((repeat (first | exact LSets.nil | exact LSet.zero | apply LSets.cons | apply LSet.succ)); done) | fail) ?_)))))
    rename_i b10
    (refine a_begin mixed _ 12 rfl (fun w h => h) ?_)
    refine a_q 0 rfl rfl rfl rfl rfl (by decide +kernel) (q_move rfl) ?_
    refine a_q 1 rfl rfl rfl rfl rfl (by decide +kernel) (q_move rfl) ?_
    refine a_gt 2 rfl rfl rfl rfl rfl rfl rfl (by decide +kernel) (q_move rfl) ?_
    refine a_gt 3 rfl rfl rfl rfl rfl rfl rfl (by decide +kernel) (q_not rfl) ?_
    refine a_gt 4 rfl rfl rfl rfl rfl rfl rfl (by decide +kernel) (q_move rfl) ?_
    refine a_gf 5 rfl rfl rfl rfl rfl rfl rfl rfl (by decide +kernel) ?_
    refine a_gf 6 rfl rfl rfl rfl rfl rfl rfl rfl (by decide +kernel) ?_
    refine a_gf 7 rfl rfl rfl rfl rfl rfl rfl rfl (by decide +kernel) ?_
    refine a_gf 8 rfl rfl rfl rfl rfl rfl rfl rfl (by decide +kernel) ?_
    refine a_gf 9 rfl rfl rfl rfl rfl rfl rfl rfl (by decide +kernel) ?_
    refine a_gt 10 rfl rfl rfl rfl rfl rfl rfl (by decide +kernel) (q_pick_t rfl rfl) ?_
    refine a_q 11 rfl rfl rfl rfl rfl (by decide +kernel) (q_pick_t rfl rfl) ?_
    refine a_done (by decide +kernel) ?_
    (repeat (first | (refine i_q ?_; (refine d_then ?_)) | (refine i_cond ?_; (refine c_ct rfl (by (rfl)) ?_))))
    (refine a_beginE mixed [blk b10 [.int .u32 5, .bool false, .int .i64 fn, .int .u8 f0, .int .u8 f1, .int .u8 f2, .int .u8 f3, .int .u8 f4, .int .u8 f5, .int .u8 f6, .int .u8 f7] 124] [blk b10 [.int .u32 5, .bool false, .int .i64 fn, .int .u8 f0, .int .u8 f1, .int .u8 f2, .int .u8 f3, .int .u8 f4, .int .u8 f5, .int .u8 f6, .int .u8 f7] 124] 5 3 rfl (fun w h => h.subl (by first | ((repeat (first | exact SubL.nil | apply SubL.keep | apply SubL.skip)); done) | fail)) (fun w h => h.subl (by first | ((repeat (first | exact SubL.nil | apply SubL.keep | apply SubL.skip)); done) | fail)) ?_)
    ((refine a_q 0 rfl rfl rfl rfl rfl (by decide +kernel) (q_move rfl) ?_; ((refine a_q 1 rfl rfl rfl rfl rfl (by decide +kernel) (by ((exact q_ldN tab rfl rfl rfl rfl (by first | ((repeat (first | exact List.Mem.head _ | apply List.Mem.tail)); done) | fail) (by first | ((repeat (first | exact TakeR.nil | apply TakeR.cons | apply CutR.zero | apply CutR.skip)); done) | fail)))) ?_)); refine a_q 2 rfl rfl rfl rfl rfl (by decide +kernel) (q_assign rfl) ?_))
    refine a_e 3 rfl (by decide +kernel) rfl (fun K hK => e_setN tab rfl rfl rfl rfl (List.cons_ne_nil _ _) rfl (by first | ((repeat (first | exact Upd.head | apply Upd.tail)); done) | fail) (by first | ((repeat (first | exact LSets.nil | exact LSet.zero | apply LSets.cons | apply LSet.succ)); done) | fail) (hK _ _ (fun w h => h.subl (by first | ((repeat (first | exact SubL.nil | apply SubL.keep | apply SubL.skip)); done) | fail)) ?_))
    clear hK
    ((refine a_q 4 rfl rfl rfl rfl rfl (by decide +kernel) (q_assign rfl) ?_))
    refine a_done (by decide +kernel) ?_
    (repeat (first | (refine i_dst ?_; (first | (refine i_move ?_; refine l_q rfl rfl rfl (q_move rfl) ?_) | (refine i_bin ?_; refine l_q rfl rfl rfl (by (exact q_add rfl rfl (by (exact wr_i64 (by omega))))) ?_))) | refine c_region ?_ | refine l_nil ?_ | (refine i_q ?_; (first | refine d_then ?_ | refine t_then ?_ | refine t_block ?_))))
    exact k_again 1 (by omega) (by omega) (by rw [bT1]; exact (by first | ((repeat (first | exact trivial | exact rfl | apply Sub.cons | exact look_int rfl (by omega) | exact look_int rfl (by simp) | exact look_int rfl (by simp; omega))); done) | fail)) (fun w h => by rw [cT1]; exact h.psub (by first | ((repeat (first | exact PSub.nil | exact Ext.head | apply Ext.tail | apply PSub.cons)); done) | fail))
  · rw [bT1, cT1]
    (repeat (first | (refine i_dst ?_; (first | (refine i_move ?_; refine l_q rfl rfl rfl (q_move rfl) ?_) | (refine i_assign ?_; refine l_q rfl rfl rfl (q_assign rfl) ?_) | (refine i_load ?_; refine l_q rfl rfl rfl (by (exact q_ldc tab rfl rfl rfl (by assumption))) ?_) | (refine i_bin ?_; refine l_q rfl rfl rfl (by (exact q_lss rfl rfl)) ?_) | (refine i_ix ?_; refine l_q rfl rfl rfl (by (exact q_indexAddr1 tab rfl rfl rfl rfl (by omega))) ?_))) | refine d_seq ?_ | refine c_region ?_ | refine l_nil ?_ | refine c_block ?_ | (refine i_q ?_; (refine d_then ?_)) | refine c_skip ?_ | (refine i_cond ?_; (refine c_ct rfl (by (rfl)) ?_))))
    (refine l_call0 rfl rfl Try.func85 rfl (by decide) (fun w' h => next_none (h.ro (Ro.empty h2))) (fun v B hv => ?_); obtain ⟨rfl, rfl⟩ := hv)
    (repeat (first | (refine i_dst ?_; (first | (refine i_move ?_; refine l_q rfl rfl rfl (q_move rfl) ?_) | (refine i_assign ?_; refine l_q rfl rfl rfl (q_assign rfl) ?_) | (refine i_alloc ?_; (refine l_allocA tab rfl rfl (fun _ => ?_))) | refine l_q rfl rfl rfl (by (exact q_extract rfl rfl)) ?_)) | refine d_seq ?_ | refine l_nil ?_ | (refine i_q ?_; (refine d_then ?_)) | (refine i_store ?_; ((refine l_setN tab rfl rfl rfl rfl (List.cons_ne_nil _ _) rfl (by first | ((repeat (first | exact Upd.head | apply Upd.tail)); done) | fail) (by first | ((repeat (first | exact LSets.nil | exact LSet.zero | apply LSets.cons | apply LSet.succ)); done) | fail) ?_)))))
    rename_i b10
    (refine a_begin mixed _ 12 rfl (fun w h => h) ?_)
    refine a_q 0 rfl rfl rfl rfl rfl (by decide +kernel) (q_move rfl) ?_
    refine a_q 1 rfl rfl rfl rfl rfl (by decide +kernel) (q_move rfl) ?_
    refine a_gf 2 rfl rfl rfl rfl rfl rfl rfl rfl (by decide +kernel) ?_
    refine a_gf 3 rfl rfl rfl rfl rfl rfl rfl rfl (by decide +kernel) ?_
    refine a_gf 4 rfl rfl rfl rfl rfl rfl rfl rfl (by decide +kernel) ?_
    refine a_gu 5 rfl rfl rfl rfl rfl rfl rfl (by decide +kernel) ?_
    refine a_gu 6 rfl rfl rfl rfl rfl rfl rfl (by decide +kernel) ?_
    refine a_gu 7 rfl rfl rfl rfl rfl rfl rfl (by decide +kernel) ?_
    refine a_gu 8 rfl rfl rfl rfl rfl rfl rfl (by decide +kernel) ?_
    refine a_gu 9 rfl rfl rfl rfl rfl rfl rfl (by decide +kernel) ?_
    refine a_gf 10 rfl rfl rfl rfl rfl rfl rfl rfl (by decide +kernel) ?_
    refine a_q 11 rfl rfl rfl rfl rfl (by decide +kernel) (q_pick_f rfl rfl) ?_
    refine a_done (by decide +kernel) ?_
    (repeat (first | (refine i_dst ?_; (first | (refine i_move ?_; refine l_q rfl rfl rfl (q_move rfl) ?_) | (refine i_bin ?_; refine l_q rfl rfl rfl (by (exact q_add rfl rfl (by (exact wr_i64 (by omega))))) ?_))) | refine c_region ?_ | refine l_nil ?_ | (refine i_q ?_; (first | refine d_then ?_ | refine t_then ?_ | refine t_block ?_)) | refine c_skip ?_ | (refine i_cond ?_; (refine c_cf rfl (by (rfl)) ?_))))
    exact k_again 2 (by omega) (by omega) (by rw [bT2]; exact (by first | ((repeat (first | exact trivial | exact rfl | apply Sub.cons | exact look_int rfl (by omega) | exact look_int rfl (by simp) | exact look_int rfl (by simp; omega))); done) | fail)) (fun w h => by rw [cT2]; exact h.psub (by first | ((repeat (first | exact PSub.nil | exact Ext.head | apply Ext.tail | apply PSub.cons)); done) | fail))
  · rw [bT2, cT2]
    (repeat (first | (refine i_dst ?_; ((refine i_bin ?_; refine l_q rfl rfl rfl (by (exact q_lss rfl rfl)) ?_))) | refine d_seq ?_ | refine c_region ?_ | refine l_nil ?_ | (refine i_q ?_; (first | refine d_then ?_ | refine d_then_exit ?_ | refine t_then_exit ?_ | refine t_block_eq rfl ?_)) | refine c_exit ?_ | (refine i_cond ?_; (refine c_cf rfl (by (rfl)) ?_))))
    (refine a_beginE mixed [blk b5 [.int .u32 5, .bool false, .int .i64 fn, .int .u8 f0, .int .u8 f1, .int .u8 f2, .int .u8 f3, .int .u8 f4, .int .u8 f5, .int .u8 f6, .int .u8 f7] 124] [blk b5 [.int .u32 5, .bool false, .int .i64 fn, .int .u8 f0, .int .u8 f1, .int .u8 f2, .int .u8 f3, .int .u8 f4, .int .u8 f5, .int .u8 f6, .int .u8 f7] 124] 6 4 rfl (fun w h => h.subl (by first | ((repeat (first | exact SubL.nil | apply SubL.keep | apply SubL.skip)); done) | fail)) (fun w h => h.subl (by first | ((repeat (first | exact SubL.nil | apply SubL.keep | apply SubL.skip)); done) | fail)) ?_)
    ((refine a_q 0 rfl rfl rfl rfl rfl (by decide +kernel) (q_move rfl) ?_; ((refine a_q 1 rfl rfl rfl rfl rfl (by decide +kernel) (by ((exact q_ldN tab rfl rfl rfl rfl (by first | ((repeat (first | exact List.Mem.head _ | apply List.Mem.tail)); done) | fail) (by first | ((repeat (first | exact TakeR.nil | apply TakeR.cons | apply CutR.zero | apply CutR.skip)); done) | fail)))) ?_)); refine a_q 2 rfl rfl rfl rfl rfl (by decide +kernel) (q_move rfl) ?_; refine a_q 3 rfl rfl rfl rfl rfl (by decide +kernel) (q_assign rfl) ?_))
    refine a_e 4 rfl (by decide +kernel) rfl (fun K hK => e_setN tab rfl rfl rfl rfl (List.cons_ne_nil _ _) rfl (by first | ((repeat (first | exact Upd.head | apply Upd.tail)); done) | fail) (by first | ((repeat (first | exact LSets.nil | exact LSet.zero | apply LSets.cons | apply LSet.succ)); done) | fail) (hK _ _ (fun w h => h.subl (by first | ((repeat (first | exact SubL.nil | apply SubL.keep | apply SubL.skip)); done) | fail)) ?_))
    clear hK
    ((refine a_q 5 rfl rfl rfl rfl rfl (by decide +kernel) (q_assign rfl) ?_))
    refine a_done (by decide +kernel) ?_
    (repeat (first | (refine i_q ?_; (refine d_then ?_)) | refine c_ret ?_))
    exact t_ret3h (hp' := []) Try.results70 rfl (res_cellM (l := [.int .u32 5, .bool false, .int .i64 fn, .int .u8 f0, .int .u8 f1, .int .u8 f2, .int .u8 f3, .int .u8 f4, .int .u8 f5, .int .u8 f6, .int .u8 f7]) tab rfl rfl rfl rfl (by first | ((repeat (first | exact List.Mem.head _ | apply List.Mem.tail)); done) | fail) rfl) rfl (fun w h => h.psub (by first | ((repeat (first | exact PSub.nil | exact Ext.head | apply Ext.tail | apply PSub.cons)); done) | fail)) ⟨rfl, rfl⟩
theorem put0_spec {fn f0 f1 f2 f3 f4 f5 f6 f7 : Int} {w : World} {A0 : Option Addr} {c0 : Nat} : Calls Try.prog 72 #[.agg #[.int .u32 5, .bool false, .int .i64 fn, .int .u8 f0, .int .u8 f1, .int .u8 f2, .int .u8 f3, .int .u8 f4, .int .u8 f5, .int .u8 f6, .int .u8 f7], .slice A0 0 c0] w (Ret w [] fun v B => v = .int .i64 0 ∧ B = []) := by
  refine enter (vs := [.agg #[.int .u32 5, .bool false, .int .i64 fn, .int .u8 f0, .int .u8 f1, .int .u8 f2, .int .u8 f3, .int .u8 f4, .int .u8 f5, .int .u8 f6, .int .u8 f7], .slice A0 0 c0]) Try.func72 rfl Try.ntmps72 rfl (Hold.nil w) ?_
  have hmx : maxLen = 2 ^ 63 - 1 := rfl
  (repeat (first | (refine i_dst ?_; (first | (refine i_move ?_; refine l_q rfl rfl rfl (q_move rfl) ?_) | (refine i_assign ?_; refine l_q rfl rfl rfl (q_assign rfl) ?_) | (refine i_blt ?_; refine l_q rfl rfl rfl (by (exact q_len tab rfl rfl)) ?_) | (refine i_box ?_; (refine l_boxA rfl rfl (fun _ => ?_))))) | refine d_seq ?_ | refine c_region ?_ | refine l_nil ?_ | refine c_block ?_ | (refine i_q ?_; (refine d_then ?_))))
  rename_i b2
  refine d_loop (T := Nat) [2, 8, 9] (fun t => [(10, .int .i64 (t : Nat)), (5, .int .i64 0)]) [] (fun _ => []) (fun t => t = 0) (fun t => t) 0 (by first | ((repeat (first | exact Pick.nil | exact rfl | apply Pick.cons)); done) | fail) rfl (by first | ((repeat (first | exact trivial | exact rfl | apply Sub.cons | exact look_int rfl (by omega) | exact look_int rfl (by simp) | exact look_int rfl (by simp; omega))); done) | fail) (fun w h => h.psub (by first | ((repeat (first | exact PSub.nil | exact Ext.head | apply Ext.tail | apply PSub.cons)); done) | fail)) ?_
  rintro t rfl
  (repeat (first | (refine i_dst ?_; (first | (refine i_move ?_; refine l_q rfl rfl rfl (q_move rfl) ?_) | (refine i_assign ?_; refine l_q rfl rfl rfl (q_assign rfl) ?_) | (refine i_bin ?_; refine l_q rfl rfl rfl (by (exact q_lss rfl rfl)) ?_))) | refine d_seq ?_ | refine c_region ?_ | refine l_nil ?_ | (refine i_q ?_; (first | refine d_then ?_ | refine d_then_exit ?_ | refine t_then_exit ?_ | refine t_block_eq rfl ?_)) | refine c_exit ?_ | refine c_ret ?_ | (refine i_cond ?_; (refine c_cf rfl (by (rfl)) ?_))))
  exact t_ret1 Try.results72 rfl ⟨rfl, rfl⟩
set_option maxHeartbeats 8000000 in
theorem put1_spec {fn f0 f1 f2 f3 f4 f5 f6 f7 : Int} {w : World} {gl px p cf : Nat} {Af : Option Addr} (hM : ∀ w, Calls Try.prog 67 #[.agg #[.int .u32 5, .bool false, .int .i64 fn, .int .u8 f0, .int .u8 f1, .int .u8 f2, .int .u8 f3, .int .u8 f4, .int .u8 f5, .int .u8 f6, .int .u8 f7]] w (Ret w [] fun v B => v = .bool true ∧ B = [])) (hA : Hold [blk p [.slice Af 1 cf, .slice none 0 0, .slice none 0 0, .bool false] 174, row 120 3 (.slice Af 1 cf) 1 [.int .u32 2047, .int .u32 5, .bool false]] w) (hl : Ro (fps [blk p [.slice Af 1 cf, .slice none 0 0, .slice none 0 0, .bool false] 174, row 120 3 (.slice Af 1 cf) 1 [.int .u32 2047, .int .u32 5, .bool false]]) w (blk gl [.pointer (some ⟨px, 0, none⟩), .pointer (some ⟨p, 0, none⟩)] 116)) : Calls Try.prog 72 #[.agg #[.int .u32 5, .bool false, .int .i64 fn, .int .u8 f0, .int .u8 f1, .int .u8 f2, .int .u8 f3, .int .u8 f4, .int .u8 f5, .int .u8 f6, .int .u8 f7], .slice (some ⟨gl, 1, none⟩) 1 1] w (Ret w [blk p [.slice Af 1 cf, .slice none 0 0, .slice none 0 0, .bool false] 174, row 120 3 (.slice Af 1 cf) 1 [.int .u32 2047, .int .u32 5, .bool false]] fun v B => v = .int .i64 1 ∧ ∃ A c u, 1 ≤ c ∧ c ≤ maxLen ∧ B = [blk p [u, .slice none 0 0, .slice A 1 c, .bool false] 174, row 124 11 (.slice A 1 c) 1 [.int .u32 5, .bool false, .int .i64 fn, .int .u8 f0, .int .u8 f1, .int .u8 f2, .int .u8 f3, .int .u8 f4, .int .u8 f5, .int .u8 f6, .int .u8 f7]]) := by
  refine enter (vs := [.agg #[.int .u32 5, .bool false, .int .i64 fn, .int .u8 f0, .int .u8 f1, .int .u8 f2, .int .u8 f3, .int .u8 f4, .int .u8 f5, .int .u8 f6, .int .u8 f7], .slice (some ⟨gl, 1, none⟩) 1 1]) Try.func72 rfl Try.ntmps72 rfl hA ?_
  have hmx : maxLen = 2 ^ 63 - 1 := rfl
  have c1 : ∀ hp w', St (fps [blk p [.slice Af 1 cf, .slice none 0 0, .slice none 0 0, .bool false] 174, row 120 3 (.slice Af 1 cf) 1 [.int .u32 2047, .int .u32 5, .bool false]]) w hp w' → w'.cell? ⟨gl, 1, none⟩ = some (.pointer (some ⟨p, 0, none⟩)) := fun hp w' h => blk_cell (h.ro hl) rfl
  (repeat (first | (refine i_dst ?_; (first | (refine i_move ?_; refine l_q rfl rfl rfl (q_move rfl) ?_) | (refine i_assign ?_; refine l_q rfl rfl rfl (q_assign rfl) ?_) | (refine i_blt ?_; refine l_q rfl rfl rfl (by (exact q_len tab rfl rfl)) ?_) | (refine i_box ?_; (refine l_boxA rfl rfl (fun _ => ?_))))) | refine d_seq ?_ | refine c_region ?_ | refine l_nil ?_ | refine c_block ?_ | (refine i_q ?_; (refine d_then ?_))))
  rename_i b2
  refine d_loop (T := Nat × Value × Option Addr × Nat) [2, 8, 9] (fun t => [(10, .int .i64 (t.1 : Nat)), (5, .int .i64 (t.1 : Nat))]) [blk b2 [.int .u32 5, .bool false, .int .i64 fn, .int .u8 f0, .int .u8 f1, .int .u8 f2, .int .u8 f3, .int .u8 f4, .int .u8 f5, .int .u8 f6, .int .u8 f7] 124] (fun t => pH (fn := fn) (f0 := f0) (f1 := f1) (f2 := f2) (f3 := f3) (f4 := f4) (f5 := f5) (f6 := f6) (f7 := f7) p cf Af t) (fun t => t.1 = 0 ∨ (t.1 = 1 ∧ 1 ≤ t.2.2.2 ∧ t.2.2.2 ≤ maxLen)) (fun t => 1 - t.1) (0, .slice none 0 0, none, 0) (by first | ((repeat (first | exact Pick.nil | exact rfl | apply Pick.cons)); done) | fail) (.inl rfl) (by first | ((repeat (first | exact trivial | exact rfl | apply Sub.cons | exact look_int rfl (by omega) | exact look_int rfl (by simp) | exact look_int rfl (by simp; omega))); done) | fail) (fun w h => by rw [pH0]; exact h.psub (by first | ((repeat (first | exact PSub.nil | exact Ext.head | apply Ext.tail | apply PSub.cons)); done) | fail)) ?_
  rintro ⟨t, u, A, c⟩ ht
  dsimp only at ht ⊢
  rcases ht with rfl | ⟨rfl, hc1, hc2⟩
  · rw [pH0]
    (repeat (first | (refine i_dst ?_; (first | (refine i_move ?_; refine l_q rfl rfl rfl (q_move rfl) ?_) | (refine i_assign ?_; refine l_q rfl rfl rfl (q_assign rfl) ?_) | (refine i_load ?_; refine l_q rfl rfl rfl (by (first | exact q_ldRo tab rfl rfl rfl (by assumption) rfl | (exact q_ldN tab rfl rfl rfl rfl (by first | ((repeat (first | exact List.Mem.head _ | apply List.Mem.tail)); done) | fail) (by first | ((repeat (first | exact TakeR.nil | apply TakeR.cons | apply CutR.zero | apply CutR.skip)); done) | fail)))) ?_) | (refine i_bin ?_; refine l_q rfl rfl rfl (by (exact q_lss rfl rfl)) ?_) | (refine i_ix ?_; refine l_q rfl rfl rfl (by (exact q_indexAddr1 tab rfl rfl rfl rfl (by omega))) ?_))) | refine d_seq ?_ | refine c_region ?_ | refine l_nil ?_ | refine c_block ?_ | (refine i_q ?_; (refine d_then ?_)) | refine c_skip ?_ | (refine i_cond ?_; (refine c_ct rfl (by (rfl)) ?_))))
    (refine l_call2 (X := blk p [.slice Af 1 cf, .slice none 0 0, .slice none 0 0, .bool false] 174) (Y := row 120 3 (.slice Af 1 cf) 1 [.int .u32 2047, .int .u32 5, .bool false]) (by first | ((repeat (first | exact Ext.head | apply Ext.tail)); done) | fail) (by first | ((repeat (first | exact Ext.head | apply Ext.tail)); done) | fail) rfl rfl Try.func87 rfl (by decide) (fun w' h => take_spec hM h.split) (fun v B hv => ?_); obtain ⟨rfl, A, c, u, hc1, hc2, rfl⟩ := hv)
    (repeat (first | (refine i_dst ?_; (first | (refine i_move ?_; refine l_q rfl rfl rfl (q_move rfl) ?_) | (refine i_assign ?_; refine l_q rfl rfl rfl (q_assign rfl) ?_) | (refine i_bin ?_; refine l_q rfl rfl rfl (by (exact q_add rfl rfl (by (exact wr_i64 (by omega))))) ?_))) | refine c_region ?_ | refine l_nil ?_ | (refine i_q ?_; (first | refine d_then ?_ | refine t_then ?_ | refine t_block ?_)) | (refine i_cond ?_; (refine c_ct rfl (by (rfl)) ?_))))
    exact k_again (1, u, A, c) (.inr ⟨rfl, hc1, hc2⟩) (by dsimp only; omega) (by first | ((repeat (first | exact trivial | exact rfl | apply Sub.cons | exact look_int rfl (by omega) | exact look_int rfl (by simp) | exact look_int rfl (by simp; omega))); done) | fail) (fun w h => by rw [pH1]; exact h.psub (by first | ((repeat (first | exact PSub.nil | exact Ext.head | apply Ext.tail | apply PSub.cons)); done) | fail))
  · rw [pH1]
    (repeat (first | (refine i_dst ?_; (first | (refine i_move ?_; refine l_q rfl rfl rfl (q_move rfl) ?_) | (refine i_assign ?_; refine l_q rfl rfl rfl (q_assign rfl) ?_) | (refine i_bin ?_; refine l_q rfl rfl rfl (by (exact q_lss rfl rfl)) ?_))) | refine d_seq ?_ | refine c_region ?_ | refine l_nil ?_ | (refine i_q ?_; (first | refine d_then ?_ | refine d_then_exit ?_ | refine t_then_exit ?_ | refine t_block_eq rfl ?_)) | refine c_exit ?_ | refine c_ret ?_ | (refine i_cond ?_; (refine c_cf rfl (by (rfl)) ?_))))
    exact t_hp (hp' := [blk p [u, .slice none 0 0, .slice A 1 c, .bool false] 174, row 124 11 (.slice A 1 c) 1 [.int .u32 5, .bool false, .int .i64 fn, .int .u8 f0, .int .u8 f1, .int .u8 f2, .int .u8 f3, .int .u8 f4, .int .u8 f5, .int .u8 f6, .int .u8 f7]]) (fun w h => h.psub (by first | ((repeat (first | exact PSub.nil | exact Ext.head | apply Ext.tail | apply PSub.cons)); done) | fail)) (t_ret1 Try.results72 rfl ⟨rfl, A, c, u, hc1, hc2, rfl⟩)
end Go.Proofs.Ytidekbijkknlmaa

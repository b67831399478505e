/-
  cmd.fits, walked.
-/
import Derived.Test.YtidekbijkknlmaaC1
set_option linter.unusedVariables false
set_option maxRecDepth 100000
namespace Go.Proofs.Ytidekbijkknlmaa
open Go.RowKit
attribute [local irreducible] TL TC TQ TK TO Qt TA
/-- The first s of five numbers; then nothing. -/
def zb (s : Nat) (l : List Nat) : List Nat := l.take s ++ List.replicate (5 - s) 0
structure FitsOk (code a0 a1 a2 a3 a4 w32 n : Nat) (s : Nat) (g : Bool) (m : Nat) : Prop where
  sh : shapeM code = some (s, g, m)
  z : [a0, a1, a2, a3, a4] = zb s [a0, a1, a2, a3, a4]
  w : g = false → w32 = 0
  n : n = needsC m a0
attribute [local irreducible] blk row bytesA starL memA segA roB
set_option maxHeartbeats 16000000 in
theorem fits_spec (code a0 a1 a2 a3 a4 w32 : Nat) (hcd : code ≤ 255) (h0 : a0 ≤ 255) (A : Option Addr) (n c : Nat) (w : World) : Calls Try.prog 38 #[.agg #[.int .u8 code, .int .u8 a0, .int .u8 a1, .int .u8 a2, .int .u8 a3, .int .u8 a4, .int .u32 w32, .slice A n c]] w (Ret w [] fun v B => ∃ b, v = .bool b ∧ B = [] ∧ (b = true → ∃ s g m, FitsOk code a0 a1 a2 a3 a4 w32 n s g m)) := by
  refine enter (vs := [.agg #[.int .u8 code, .int .u8 a0, .int .u8 a1, .int .u8 a2, .int .u8 a3, .int .u8 a4, .int .u32 w32, .slice A n c]]) Try.func38 rfl Try.ntmps38 rfl (Hold.nil w) ?_
  have hmx : maxLen = 2 ^ 63 - 1 := rfl
  (repeat (first | (refine i_dst ?_; (first | (refine i_assign ?_; refine l_q rfl rfl rfl (q_assign rfl) ?_) | (refine i_load ?_; refine l_q rfl rfl rfl (by ((exact q_ld1 tab rfl rfl rfl (by first | ((repeat (first | exact List.Mem.head _ | apply List.Mem.tail)); done) | fail) (by (rfl))))) ?_) | (refine i_box ?_; (refine l_boxA rfl rfl (fun _ => ?_))) | (refine l_q rfl rfl rfl (by ((apply iq_fld; (exact q_fieldAddr tab rfl rfl rfl rfl rfl rfl rfl)))) ?_))) | refine d_seq ?_ | refine c_region ?_ | refine l_nil ?_ | (refine i_q ?_; (refine d_then ?_))))
  rename_i b1
  (refine l_call0 rfl rfl Try.func39 rfl (by decide) (fun w' h => shape_spec code hcd w') (fun v B hv => ?_); obtain ⟨rfl, rfl⟩ := hv)
  rcases hs : shapeM code with _ | ⟨s, g, m⟩
  · rw [shV]
    (repeat (first | (refine i_dst ?_; (first | (refine i_move ?_; refine l_q rfl rfl rfl (q_move rfl) ?_) | (refine i_assign ?_; refine l_q rfl rfl rfl (q_assign rfl) ?_) | (refine i_alloc ?_; (refine l_allocA tab rfl rfl (fun _ => ?_))) | refine l_q rfl rfl rfl (by (exact q_extract rfl rfl)) ?_)) | refine d_seq ?_ | refine c_region ?_ | refine l_nil ?_ | (refine i_q ?_; (refine d_then ?_))))
    rename_i b7
    (refine a_begin mixed [blk b1 [.int .u8 code, .int .u8 a0, .int .u8 a1, .int .u8 a2, .int .u8 a3, .int .u8 a4, .int .u32 w32, .slice A n c] 63] 6 rfl (fun w h => h.subl (by first | ((repeat (first | exact SubL.nil | apply SubL.keep | apply SubL.skip)); done) | fail)) ?_)
    refine a_q 0 rfl rfl rfl rfl rfl (by decide +kernel) (q_move rfl) ?_
    refine a_q 1 rfl rfl rfl rfl rfl (by decide +kernel) (q_arHi (h := 0) tab rfl rfl rfl rfl (by omega) (by omega)) ?_
    refine a_q 2 rfl rfl rfl rfl rfl (by decide +kernel) (q_fieldAddr tab rfl rfl rfl rfl rfl rfl rfl) ?_
    refine a_q 3 rfl rfl rfl rfl rfl (by decide +kernel) (q_move rfl) ?_
    refine a_q 4 rfl rfl rfl rfl rfl (by decide +kernel) (q_arHi (h := 0) tab rfl rfl rfl rfl (by omega) (by omega)) ?_
    refine a_e 5 rfl (by decide +kernel) rfl (fun K hK => e_copy tab (i := 0) (news := []) rfl rfl rfl rfl rfl rfl (by simp) (fun w h => ⟨rfl, fun _ => ⟨b1, 1, rfl, blk_cells (q := 0) (h.mem (X := blk b1 [.int .u8 code, .int .u8 a0, .int .u8 a1, .int .u8 a2, .int .u8 a3, .int .u8 a4, .int .u32 w32, .slice A n c] 63) (by first | ((repeat (first | exact List.Mem.head _ | apply List.Mem.tail)); done) | fail)) rfl⟩⟩) (by simp [Value.oneCell']) (hK _ _ (fun w h => h.subl (by first | ((repeat (first | exact SubL.nil | apply SubL.keep | apply SubL.skip)); done) | fail)) ?_))
    clear hK
    refine a_done (by decide +kernel) ?_
    refine t_hp (hp' := [blk b1 [.int .u8 code, .int .u8 a0, .int .u8 a1, .int .u8 a2, .int .u8 a3, .int .u8 a4, .int .u32 w32, .slice A n c] 63, blk b7 [.int .u8 0, .int .u8 0, .int .u8 0, .int .u8 0, .int .u8 0] 60]) (fun w h => h.psub (by first | ((repeat (first | exact PSub.nil | exact Ext.head | apply Ext.tail | apply PSub.cons)); done) | fail)) ?_
    (repeat (first | refine d_seq ?_ | (refine i_q ?_; (refine d_then ?_))))
    (refine a_begin mixed _ 25 rfl (fun w h => h) ?_)
    refine a_q 0 rfl rfl rfl rfl rfl (by decide +kernel) (q_move rfl) ?_
    refine a_q 1 rfl rfl rfl rfl rfl (by decide +kernel) (q_move rfl) ?_
    refine a_gf 2 rfl rfl rfl rfl rfl rfl rfl rfl (by decide +kernel) ?_
    refine a_gf 3 rfl rfl rfl rfl rfl rfl rfl rfl (by decide +kernel) ?_
    refine a_gf 4 rfl rfl rfl rfl rfl rfl rfl rfl (by decide +kernel) ?_
    refine a_gf 5 rfl rfl rfl rfl rfl rfl rfl rfl (by decide +kernel) ?_
    refine a_q 6 rfl rfl rfl rfl rfl (by decide +kernel) (q_pick_f rfl rfl) ?_
    refine a_q 7 rfl rfl rfl rfl rfl (by decide +kernel) (q_move rfl) ?_
    refine a_gf 8 rfl rfl rfl rfl rfl rfl rfl rfl (by decide +kernel) ?_
    refine a_gf 9 rfl rfl rfl rfl rfl rfl rfl rfl (by decide +kernel) ?_
    refine a_gu 10 rfl rfl rfl rfl rfl rfl rfl (by decide +kernel) ?_
    refine a_gu 11 rfl rfl rfl rfl rfl rfl rfl (by decide +kernel) ?_
    refine a_gu 12 rfl rfl rfl rfl rfl rfl rfl (by decide +kernel) ?_
    refine a_gf 13 rfl rfl rfl rfl rfl rfl rfl rfl (by decide +kernel) ?_
    refine a_q 14 rfl rfl rfl rfl rfl (by decide +kernel) (q_pick_f rfl rfl) ?_
    refine a_q 15 rfl rfl rfl rfl rfl (by decide +kernel) (q_move rfl) ?_
    refine a_gf 16 rfl rfl rfl rfl rfl rfl rfl rfl (by decide +kernel) ?_
    refine a_gf 17 rfl rfl rfl rfl rfl rfl rfl rfl (by decide +kernel) ?_
    refine a_gf 18 rfl rfl rfl rfl rfl rfl rfl rfl (by decide +kernel) ?_
    refine a_gf 19 rfl rfl rfl rfl rfl rfl rfl rfl (by decide +kernel) ?_
    refine a_gf 20 rfl rfl rfl rfl rfl rfl rfl rfl (by decide +kernel) ?_
    refine a_gf 21 rfl rfl rfl rfl rfl rfl rfl rfl (by decide +kernel) ?_
    refine a_gf 22 rfl rfl rfl rfl rfl rfl rfl rfl (by decide +kernel) ?_
    refine a_q 23 rfl rfl rfl rfl rfl (by decide +kernel) (q_pick_f rfl rfl) ?_
    refine a_q 24 rfl rfl rfl rfl rfl (by decide +kernel) (q_assign rfl) ?_
    refine a_done (by decide +kernel) ?_
    (repeat (first | (refine i_q ?_; (refine d_then ?_)) | refine c_ret ?_))
    exact t_hp (hp' := []) (fun w h => h.psub (by first | ((repeat (first | exact PSub.nil | exact Ext.head | apply Ext.tail | apply PSub.cons)); done) | fail)) (t_ret1 Try.results38 rfl ⟨false, rfl, rfl, fun h => (by cases h)⟩)
  · obtain ⟨⟨hs5, -⟩, -⟩ := shape_some hs
    rw [shV]
    (repeat (first | (refine i_dst ?_; (first | (refine i_move ?_; refine l_q rfl rfl rfl (q_move rfl) ?_) | (refine i_assign ?_; refine l_q rfl rfl rfl (q_assign rfl) ?_) | (refine i_alloc ?_; (refine l_allocA tab rfl rfl (fun _ => ?_))) | refine l_q rfl rfl rfl (by (exact q_extract rfl rfl)) ?_)) | refine d_seq ?_ | refine c_region ?_ | refine l_nil ?_ | (refine i_q ?_; (refine d_then ?_))))
    rename_i b7
    (refine a_begin mixed [blk b1 [.int .u8 code, .int .u8 a0, .int .u8 a1, .int .u8 a2, .int .u8 a3, .int .u8 a4, .int .u32 w32, .slice A n c] 63] 6 rfl (fun w h => h.subl (by first | ((repeat (first | exact SubL.nil | apply SubL.keep | apply SubL.skip)); done) | fail)) ?_)
    refine a_joinP (α := Nat × Nat × Nat × Nat × Nat) (fun z => [z.1, z.2.1, z.2.2.1, z.2.2.2.1, z.2.2.2.2] = zb s [a0, a1, a2, a3, a4]) (fun _ => []) [1, 3, 4, 5, 6, 7] (by first | ((repeat (first | exact Pick.nil | exact rfl | apply Pick.cons)); done) | fail) (fun z => [blk b1 [.int .u8 code, .int .u8 a0, .int .u8 a1, .int .u8 a2, .int .u8 a3, .int .u8 a4, .int .u32 w32, .slice A n c] 63, blk b7 [.int .u8 z.1, .int .u8 z.2.1, .int .u8 z.2.2.1, .int .u8 z.2.2.2.1, .int .u8 z.2.2.2.2] 60]) ?_ (fun key => ?_)
    rotate_left
    · rcases (by omega : s = 0 ∨ s = 1 ∨ s = 2 ∨ s = 3 ∨ s = 4 ∨ s = 5) with rfl | rfl | rfl | rfl | rfl | rfl
      · refine a_q 0 rfl rfl rfl rfl rfl (by decide +kernel) (q_move rfl) ?_
        refine a_q 1 rfl rfl rfl rfl rfl (by decide +kernel) (q_arHi (h := 0) tab rfl rfl rfl rfl (by omega) (by omega)) ?_
        refine a_q 2 rfl rfl rfl rfl rfl (by decide +kernel) (q_fieldAddr tab rfl rfl rfl rfl rfl rfl rfl) ?_
        refine a_q 3 rfl rfl rfl rfl rfl (by decide +kernel) (q_move rfl) ?_
        refine a_q 4 rfl rfl rfl rfl rfl (by decide +kernel) (q_arHi (h := 0) tab rfl rfl rfl rfl (by omega) (by omega)) ?_
        refine a_e 5 rfl (by decide +kernel) rfl (fun K hK => e_copy tab (i := 0) (news := []) rfl rfl rfl rfl rfl rfl (by simp) (fun w h => ⟨rfl, fun _ => ⟨b1, 1, rfl, blk_cells (q := 0) (h.mem (X := blk b1 [.int .u8 code, .int .u8 a0, .int .u8 a1, .int .u8 a2, .int .u8 a3, .int .u8 a4, .int .u32 w32, .slice A n c] 63) (by first | ((repeat (first | exact List.Mem.head _ | apply List.Mem.tail)); done) | fail)) rfl⟩⟩) (by simp [Value.oneCell']) (hK _ _ (fun w h => h.subl (by first | ((repeat (first | exact SubL.nil | apply SubL.keep | apply SubL.skip)); done) | fail)) ?_))
        clear hK
        refine a_done (by decide +kernel) ?_
        exact key (0, 0, 0, 0, 0) rfl _ _ (by first | ((repeat (first | exact trivial | exact rfl | apply Sub.cons | exact look_int rfl (by omega) | exact look_int rfl (by simp) | exact look_int rfl (by simp; omega))); done) | fail) (fun w h => h.psub (by first | ((repeat (first | exact PSub.nil | exact Ext.head | apply Ext.tail | apply PSub.cons)); done) | fail))
      · refine a_q 0 rfl rfl rfl rfl rfl (by decide +kernel) (q_move rfl) ?_
        refine a_q 1 rfl rfl rfl rfl rfl (by decide +kernel) (q_arHi (h := 1) tab rfl rfl rfl rfl (by omega) (by omega)) ?_
        refine a_q 2 rfl rfl rfl rfl rfl (by decide +kernel) (q_fieldAddr tab rfl rfl rfl rfl rfl rfl rfl) ?_
        refine a_q 3 rfl rfl rfl rfl rfl (by decide +kernel) (q_move rfl) ?_
        refine a_q 4 rfl rfl rfl rfl rfl (by decide +kernel) (q_arHi (h := 1) tab rfl rfl rfl rfl (by omega) (by omega)) ?_
        refine a_e 5 rfl (by decide +kernel) rfl (fun K hK => e_copy tab (i := 0) (news := [.int .u8 a0]) rfl rfl rfl rfl rfl rfl (by simp) (fun w h => ⟨rfl, fun _ => ⟨b1, 1, rfl, blk_cells (q := 1) (h.mem (X := blk b1 [.int .u8 code, .int .u8 a0, .int .u8 a1, .int .u8 a2, .int .u8 a3, .int .u8 a4, .int .u32 w32, .slice A n c] 63) (by first | ((repeat (first | exact List.Mem.head _ | apply List.Mem.tail)); done) | fail)) rfl⟩⟩) (by simp [Value.oneCell']) (hK _ _ (fun w h => h.subl (by first | ((repeat (first | exact SubL.nil | apply SubL.keep | apply SubL.skip)); done) | fail)) ?_))
        clear hK
        refine a_done (by decide +kernel) ?_
        exact key (a0, 0, 0, 0, 0) rfl _ _ (by first | ((repeat (first | exact trivial | exact rfl | apply Sub.cons | exact look_int rfl (by omega) | exact look_int rfl (by simp) | exact look_int rfl (by simp; omega))); done) | fail) (fun w h => h.psub (by first | ((repeat (first | exact PSub.nil | exact Ext.head | apply Ext.tail | apply PSub.cons)); done) | fail))
      · refine a_q 0 rfl rfl rfl rfl rfl (by decide +kernel) (q_move rfl) ?_
        refine a_q 1 rfl rfl rfl rfl rfl (by decide +kernel) (q_arHi (h := 2) tab rfl rfl rfl rfl (by omega) (by omega)) ?_
        refine a_q 2 rfl rfl rfl rfl rfl (by decide +kernel) (q_fieldAddr tab rfl rfl rfl rfl rfl rfl rfl) ?_
        refine a_q 3 rfl rfl rfl rfl rfl (by decide +kernel) (q_move rfl) ?_
        refine a_q 4 rfl rfl rfl rfl rfl (by decide +kernel) (q_arHi (h := 2) tab rfl rfl rfl rfl (by omega) (by omega)) ?_
        refine a_e 5 rfl (by decide +kernel) rfl (fun K hK => e_copy tab (i := 0) (news := [.int .u8 a0, .int .u8 a1]) rfl rfl rfl rfl rfl rfl (by simp) (fun w h => ⟨rfl, fun _ => ⟨b1, 1, rfl, blk_cells (q := 2) (h.mem (X := blk b1 [.int .u8 code, .int .u8 a0, .int .u8 a1, .int .u8 a2, .int .u8 a3, .int .u8 a4, .int .u32 w32, .slice A n c] 63) (by first | ((repeat (first | exact List.Mem.head _ | apply List.Mem.tail)); done) | fail)) rfl⟩⟩) (by simp [Value.oneCell']) (hK _ _ (fun w h => h.subl (by first | ((repeat (first | exact SubL.nil | apply SubL.keep | apply SubL.skip)); done) | fail)) ?_))
        clear hK
        refine a_done (by decide +kernel) ?_
        exact key (a0, a1, 0, 0, 0) rfl _ _ (by first | ((repeat (first | exact trivial | exact rfl | apply Sub.cons | exact look_int rfl (by omega) | exact look_int rfl (by simp) | exact look_int rfl (by simp; omega))); done) | fail) (fun w h => h.psub (by first | ((repeat (first | exact PSub.nil | exact Ext.head | apply Ext.tail | apply PSub.cons)); done) | fail))
      · refine a_q 0 rfl rfl rfl rfl rfl (by decide +kernel) (q_move rfl) ?_
        refine a_q 1 rfl rfl rfl rfl rfl (by decide +kernel) (q_arHi (h := 3) tab rfl rfl rfl rfl (by omega) (by omega)) ?_
        refine a_q 2 rfl rfl rfl rfl rfl (by decide +kernel) (q_fieldAddr tab rfl rfl rfl rfl rfl rfl rfl) ?_
        refine a_q 3 rfl rfl rfl rfl rfl (by decide +kernel) (q_move rfl) ?_
        refine a_q 4 rfl rfl rfl rfl rfl (by decide +kernel) (q_arHi (h := 3) tab rfl rfl rfl rfl (by omega) (by omega)) ?_
        refine a_e 5 rfl (by decide +kernel) rfl (fun K hK => e_copy tab (i := 0) (news := [.int .u8 a0, .int .u8 a1, .int .u8 a2]) rfl rfl rfl rfl rfl rfl (by simp) (fun w h => ⟨rfl, fun _ => ⟨b1, 1, rfl, blk_cells (q := 3) (h.mem (X := blk b1 [.int .u8 code, .int .u8 a0, .int .u8 a1, .int .u8 a2, .int .u8 a3, .int .u8 a4, .int .u32 w32, .slice A n c] 63) (by first | ((repeat (first | exact List.Mem.head _ | apply List.Mem.tail)); done) | fail)) rfl⟩⟩) (by simp [Value.oneCell']) (hK _ _ (fun w h => h.subl (by first | ((repeat (first | exact SubL.nil | apply SubL.keep | apply SubL.skip)); done) | fail)) ?_))
        clear hK
        refine a_done (by decide +kernel) ?_
        exact key (a0, a1, a2, 0, 0) rfl _ _ (by first | ((repeat (first | exact trivial | exact rfl | apply Sub.cons | exact look_int rfl (by omega) | exact look_int rfl (by simp) | exact look_int rfl (by simp; omega))); done) | fail) (fun w h => h.psub (by first | ((repeat (first | exact PSub.nil | exact Ext.head | apply Ext.tail | apply PSub.cons)); done) | fail))
      · refine a_q 0 rfl rfl rfl rfl rfl (by decide +kernel) (q_move rfl) ?_
        refine a_q 1 rfl rfl rfl rfl rfl (by decide +kernel) (q_arHi (h := 4) tab rfl rfl rfl rfl (by omega) (by omega)) ?_
        refine a_q 2 rfl rfl rfl rfl rfl (by decide +kernel) (q_fieldAddr tab rfl rfl rfl rfl rfl rfl rfl) ?_
        refine a_q 3 rfl rfl rfl rfl rfl (by decide +kernel) (q_move rfl) ?_
        refine a_q 4 rfl rfl rfl rfl rfl (by decide +kernel) (q_arHi (h := 4) tab rfl rfl rfl rfl (by omega) (by omega)) ?_
        refine a_e 5 rfl (by decide +kernel) rfl (fun K hK => e_copy tab (i := 0) (news := [.int .u8 a0, .int .u8 a1, .int .u8 a2, .int .u8 a3]) rfl rfl rfl rfl rfl rfl (by simp) (fun w h => ⟨rfl, fun _ => ⟨b1, 1, rfl, blk_cells (q := 4) (h.mem (X := blk b1 [.int .u8 code, .int .u8 a0, .int .u8 a1, .int .u8 a2, .int .u8 a3, .int .u8 a4, .int .u32 w32, .slice A n c] 63) (by first | ((repeat (first | exact List.Mem.head _ | apply List.Mem.tail)); done) | fail)) rfl⟩⟩) (by simp [Value.oneCell']) (hK _ _ (fun w h => h.subl (by first | ((repeat (first | exact SubL.nil | apply SubL.keep | apply SubL.skip)); done) | fail)) ?_))
        clear hK
        refine a_done (by decide +kernel) ?_
        exact key (a0, a1, a2, a3, 0) rfl _ _ (by first | ((repeat (first | exact trivial | exact rfl | apply Sub.cons | exact look_int rfl (by omega) | exact look_int rfl (by simp) | exact look_int rfl (by simp; omega))); done) | fail) (fun w h => h.psub (by first | ((repeat (first | exact PSub.nil | exact Ext.head | apply Ext.tail | apply PSub.cons)); done) | fail))
      · refine a_q 0 rfl rfl rfl rfl rfl (by decide +kernel) (q_move rfl) ?_
        refine a_q 1 rfl rfl rfl rfl rfl (by decide +kernel) (q_arHi (h := 5) tab rfl rfl rfl rfl (by omega) (by omega)) ?_
        refine a_q 2 rfl rfl rfl rfl rfl (by decide +kernel) (q_fieldAddr tab rfl rfl rfl rfl rfl rfl rfl) ?_
        refine a_q 3 rfl rfl rfl rfl rfl (by decide +kernel) (q_move rfl) ?_
        refine a_q 4 rfl rfl rfl rfl rfl (by decide +kernel) (q_arHi (h := 5) tab rfl rfl rfl rfl (by omega) (by omega)) ?_
        refine a_e 5 rfl (by decide +kernel) rfl (fun K hK => e_copy tab (i := 0) (news := [.int .u8 a0, .int .u8 a1, .int .u8 a2, .int .u8 a3, .int .u8 a4]) rfl rfl rfl rfl rfl rfl (by simp) (fun w h => ⟨rfl, fun _ => ⟨b1, 1, rfl, blk_cells (q := 5) (h.mem (X := blk b1 [.int .u8 code, .int .u8 a0, .int .u8 a1, .int .u8 a2, .int .u8 a3, .int .u8 a4, .int .u32 w32, .slice A n c] 63) (by first | ((repeat (first | exact List.Mem.head _ | apply List.Mem.tail)); done) | fail)) rfl⟩⟩) (by simp [Value.oneCell']) (hK _ _ (fun w h => h.subl (by first | ((repeat (first | exact SubL.nil | apply SubL.keep | apply SubL.skip)); done) | fail)) ?_))
        clear hK
        refine a_done (by decide +kernel) ?_
        exact key (a0, a1, a2, a3, a4) rfl _ _ (by first | ((repeat (first | exact trivial | exact rfl | apply Sub.cons | exact look_int rfl (by omega) | exact look_int rfl (by simp) | exact look_int rfl (by simp; omega))); done) | fail) (fun w h => h.psub (by first | ((repeat (first | exact PSub.nil | exact Ext.head | apply Ext.tail | apply PSub.cons)); done) | fail))
    rintro ⟨z0, z1, z2, z3, z4⟩ hz
    dsimp only at hz ⊢
    (repeat (first | refine d_seq ?_ | (refine i_q ?_; (refine d_then ?_))))
    (refine a_begin mixed _ 25 rfl (fun w h => h) ?_)
    by_cases hall : (a0 = z0 ∧ a1 = z1 ∧ a2 = z2 ∧ a3 = z3 ∧ a4 = z4)
    · have heq : (((a0 : Int) == (z0 : Int)) && (((a1 : Int) == (z1 : Int)) && (((a2 : Int) == (z2 : Int)) && (((a3 : Int) == (z3 : Int)) && ((a4 : Int) == (z4 : Int)))))) = true := by
        obtain ⟨rfl, rfl, rfl, rfl, rfl⟩ := hall
        simp
      have hzb : [a0, a1, a2, a3, a4] = zb s [a0, a1, a2, a3, a4] := by
        rw [← hz]
        obtain ⟨rfl, rfl, rfl, rfl, rfl⟩ := hall
        rfl
      cases g with
      | true =>
        refine a_q 0 rfl rfl rfl rfl rfl (by decide +kernel) (q_move rfl) ?_
        refine a_q 1 rfl rfl rfl rfl rfl (by decide +kernel) (q_move rfl) ?_
        refine a_gt 2 rfl rfl rfl rfl rfl rfl rfl (by decide +kernel) (q_fieldAddr tab rfl rfl rfl rfl rfl rfl rfl) ?_
        refine a_gt 3 rfl rfl rfl rfl rfl rfl rfl (by decide +kernel) (q_ldN tab rfl rfl rfl rfl (by first | ((repeat (first | exact List.Mem.head _ | apply List.Mem.tail)); done) | fail) (by first | ((repeat (first | exact TakeR.nil | apply TakeR.cons | apply CutR.zero | apply CutR.skip)); done) | fail)) ?_
        refine a_gt 4 rfl rfl rfl rfl rfl rfl rfl (by decide +kernel) (q_ldN tab rfl rfl rfl rfl (by first | ((repeat (first | exact List.Mem.head _ | apply List.Mem.tail)); done) | fail) (by first | ((repeat (first | exact TakeR.nil | apply TakeR.cons | apply CutR.zero | apply CutR.skip)); done) | fail)) ?_
        refine a_gt 5 rfl rfl rfl rfl rfl rfl rfl (by decide +kernel) (q_eqA5 rfl rfl) ?_
        rw [heq]
        refine a_q 6 rfl rfl rfl rfl rfl (by decide +kernel) (q_pick_t rfl rfl) ?_
        refine a_q 7 rfl rfl rfl rfl rfl (by decide +kernel) (q_move rfl) ?_
        refine a_gt 8 rfl rfl rfl rfl rfl rfl rfl (by decide +kernel) (q_move rfl) ?_
        refine a_gt 9 rfl rfl rfl rfl rfl rfl rfl (by decide +kernel) (q_move rfl) ?_
        refine a_gf 10 rfl rfl rfl rfl rfl rfl rfl rfl (by decide +kernel) ?_
        refine a_gf 11 rfl rfl rfl rfl rfl rfl rfl rfl (by decide +kernel) ?_
        refine a_gf 12 rfl rfl rfl rfl rfl rfl rfl rfl (by decide +kernel) ?_
        refine a_gt 13 rfl rfl rfl rfl rfl rfl rfl (by decide +kernel) (q_pick_t rfl rfl) ?_
        refine a_q 14 rfl rfl rfl rfl rfl (by decide +kernel) (q_pick_t rfl rfl) ?_
        refine a_q 15 rfl rfl rfl rfl rfl (by decide +kernel) (q_move rfl) ?_
        refine a_gt 16 rfl rfl rfl rfl rfl rfl rfl (by decide +kernel) (q_fieldAddr tab rfl rfl rfl rfl rfl rfl rfl) ?_
        refine a_gt 17 rfl rfl rfl rfl rfl rfl rfl (by decide +kernel) (q_ld1 tab rfl rfl rfl (by first | ((repeat (first | exact List.Mem.head _ | apply List.Mem.tail)); done) | fail) rfl) ?_
        refine a_gt 18 rfl rfl rfl rfl rfl rfl rfl (by decide +kernel) (q_len tab rfl rfl) ?_
        refine a_gt 19 rfl rfl rfl rfl rfl rfl rfl (by decide +kernel) (q_ldN tab rfl rfl rfl rfl (by first | ((repeat (first | exact List.Mem.head _ | apply List.Mem.tail)); done) | fail) (by first | ((repeat (first | exact TakeR.nil | apply TakeR.cons | apply CutR.zero | apply CutR.skip)); done) | fail)) ?_
        refine a_gt 20 rfl rfl rfl rfl rfl rfl rfl (by decide +kernel) (q_move rfl) ?_
        refine a_eg 21 rfl (by decide +kernel) rfl rfl rfl (fun K hK => e_call0 rfl rfl Try.func49 rfl (by decide) (fun w' h => cneeds_spec code a0 a1 a2 a3 a4 w32 h0 (.slice A n c) m w' rfl) (fun v B hv => ?_))
        obtain ⟨rfl, rfl⟩ := hv
        refine hK _ _ (fun w h => h.subl (by first | ((repeat (first | exact SubL.nil | apply SubL.keep | apply SubL.skip)); done) | fail)) ?_
        clear hK
        refine a_gt 22 rfl rfl rfl rfl rfl rfl rfl (by decide +kernel) (q_eql rfl rfl) ?_
        refine a_q 23 rfl rfl rfl rfl rfl (by decide +kernel) (q_pick_t rfl rfl) ?_
        refine a_q 24 rfl rfl rfl rfl rfl (by decide +kernel) (q_assign rfl) ?_
        refine a_done (by decide +kernel) ?_
        (repeat (first | (refine i_q ?_; (refine d_then ?_)) | refine c_ret ?_))
        exact t_hp (hp' := []) (fun w h => h.psub (by first | ((repeat (first | exact PSub.nil | exact Ext.head | apply Ext.tail | apply PSub.cons)); done) | fail)) (t_ret1 Try.results38 rfl ⟨_, rfl, rfl, fun h => ⟨s, true, m, hs, hzb, fun h => (by cases h), by have := of_decide_eq_true h; omega⟩⟩)
      | false =>
        by_cases hw0 : w32 = 0
        · refine a_q 0 rfl rfl rfl rfl rfl (by decide +kernel) (q_move rfl) ?_
          refine a_q 1 rfl rfl rfl rfl rfl (by decide +kernel) (q_move rfl) ?_
          refine a_gt 2 rfl rfl rfl rfl rfl rfl rfl (by decide +kernel) (q_fieldAddr tab rfl rfl rfl rfl rfl rfl rfl) ?_
          refine a_gt 3 rfl rfl rfl rfl rfl rfl rfl (by decide +kernel) (q_ldN tab rfl rfl rfl rfl (by first | ((repeat (first | exact List.Mem.head _ | apply List.Mem.tail)); done) | fail) (by first | ((repeat (first | exact TakeR.nil | apply TakeR.cons | apply CutR.zero | apply CutR.skip)); done) | fail)) ?_
          refine a_gt 4 rfl rfl rfl rfl rfl rfl rfl (by decide +kernel) (q_ldN tab rfl rfl rfl rfl (by first | ((repeat (first | exact List.Mem.head _ | apply List.Mem.tail)); done) | fail) (by first | ((repeat (first | exact TakeR.nil | apply TakeR.cons | apply CutR.zero | apply CutR.skip)); done) | fail)) ?_
          refine a_gt 5 rfl rfl rfl rfl rfl rfl rfl (by decide +kernel) (q_eqA5 rfl rfl) ?_
          rw [heq]
          refine a_q 6 rfl rfl rfl rfl rfl (by decide +kernel) (q_pick_t rfl rfl) ?_
          refine a_q 7 rfl rfl rfl rfl rfl (by decide +kernel) (q_move rfl) ?_
          refine a_gt 8 rfl rfl rfl rfl rfl rfl rfl (by decide +kernel) (q_move rfl) ?_
          refine a_gt 9 rfl rfl rfl rfl rfl rfl rfl (by decide +kernel) (q_move rfl) ?_
          refine a_gt 10 rfl rfl rfl rfl rfl rfl rfl (by decide +kernel) (q_fieldAddr tab rfl rfl rfl rfl rfl rfl rfl) ?_
          refine a_gt 11 rfl rfl rfl rfl rfl rfl rfl (by decide +kernel) (q_ld1 tab rfl rfl rfl (by first | ((repeat (first | exact List.Mem.head _ | apply List.Mem.tail)); done) | fail) rfl) ?_
          refine a_gt 12 rfl rfl rfl rfl rfl rfl rfl (by decide +kernel) (q_eql rfl rfl) ?_
          rw [show decide ((w32 : Int) = 0) = true from decide_eq_true (by omega)]
          refine a_gt 13 rfl rfl rfl rfl rfl rfl rfl (by decide +kernel) (q_pick_f rfl rfl) ?_
          refine a_q 14 rfl rfl rfl rfl rfl (by decide +kernel) (q_pick_t rfl rfl) ?_
          refine a_q 15 rfl rfl rfl rfl rfl (by decide +kernel) (q_move rfl) ?_
          refine a_gt 16 rfl rfl rfl rfl rfl rfl rfl (by decide +kernel) (q_fieldAddr tab rfl rfl rfl rfl rfl rfl rfl) ?_
          refine a_gt 17 rfl rfl rfl rfl rfl rfl rfl (by decide +kernel) (q_ld1 tab rfl rfl rfl (by first | ((repeat (first | exact List.Mem.head _ | apply List.Mem.tail)); done) | fail) rfl) ?_
          refine a_gt 18 rfl rfl rfl rfl rfl rfl rfl (by decide +kernel) (q_len tab rfl rfl) ?_
          refine a_gt 19 rfl rfl rfl rfl rfl rfl rfl (by decide +kernel) (q_ldN tab rfl rfl rfl rfl (by first | ((repeat (first | exact List.Mem.head _ | apply List.Mem.tail)); done) | fail) (by first | ((repeat (first | exact TakeR.nil | apply TakeR.cons | apply CutR.zero | apply CutR.skip)); done) | fail)) ?_
          refine a_gt 20 rfl rfl rfl rfl rfl rfl rfl (by decide +kernel) (q_move rfl) ?_
          refine a_eg 21 rfl (by decide +kernel) rfl rfl rfl (fun K hK => e_call0 rfl rfl Try.func49 rfl (by decide) (fun w' h => cneeds_spec code a0 a1 a2 a3 a4 w32 h0 (.slice A n c) m w' rfl) (fun v B hv => ?_))
          obtain ⟨rfl, rfl⟩ := hv
          refine hK _ _ (fun w h => h.subl (by first | ((repeat (first | exact SubL.nil | apply SubL.keep | apply SubL.skip)); done) | fail)) ?_
          clear hK
          refine a_gt 22 rfl rfl rfl rfl rfl rfl rfl (by decide +kernel) (q_eql rfl rfl) ?_
          refine a_q 23 rfl rfl rfl rfl rfl (by decide +kernel) (q_pick_t rfl rfl) ?_
          refine a_q 24 rfl rfl rfl rfl rfl (by decide +kernel) (q_assign rfl) ?_
          refine a_done (by decide +kernel) ?_
          (repeat (first | (refine i_q ?_; (refine d_then ?_)) | refine c_ret ?_))
          exact t_hp (hp' := []) (fun w h => h.psub (by first | ((repeat (first | exact PSub.nil | exact Ext.head | apply Ext.tail | apply PSub.cons)); done) | fail)) (t_ret1 Try.results38 rfl ⟨_, rfl, rfl, fun h => ⟨s, false, m, hs, hzb, fun _ => hw0, by have := of_decide_eq_true h; omega⟩⟩)
        · refine a_q 0 rfl rfl rfl rfl rfl (by decide +kernel) (q_move rfl) ?_
          refine a_q 1 rfl rfl rfl rfl rfl (by decide +kernel) (q_move rfl) ?_
          refine a_gt 2 rfl rfl rfl rfl rfl rfl rfl (by decide +kernel) (q_fieldAddr tab rfl rfl rfl rfl rfl rfl rfl) ?_
          refine a_gt 3 rfl rfl rfl rfl rfl rfl rfl (by decide +kernel) (q_ldN tab rfl rfl rfl rfl (by first | ((repeat (first | exact List.Mem.head _ | apply List.Mem.tail)); done) | fail) (by first | ((repeat (first | exact TakeR.nil | apply TakeR.cons | apply CutR.zero | apply CutR.skip)); done) | fail)) ?_
          refine a_gt 4 rfl rfl rfl rfl rfl rfl rfl (by decide +kernel) (q_ldN tab rfl rfl rfl rfl (by first | ((repeat (first | exact List.Mem.head _ | apply List.Mem.tail)); done) | fail) (by first | ((repeat (first | exact TakeR.nil | apply TakeR.cons | apply CutR.zero | apply CutR.skip)); done) | fail)) ?_
          refine a_gt 5 rfl rfl rfl rfl rfl rfl rfl (by decide +kernel) (q_eqA5 rfl rfl) ?_
          rw [heq]
          refine a_q 6 rfl rfl rfl rfl rfl (by decide +kernel) (q_pick_t rfl rfl) ?_
          refine a_q 7 rfl rfl rfl rfl rfl (by decide +kernel) (q_move rfl) ?_
          refine a_gt 8 rfl rfl rfl rfl rfl rfl rfl (by decide +kernel) (q_move rfl) ?_
          refine a_gt 9 rfl rfl rfl rfl rfl rfl rfl (by decide +kernel) (q_move rfl) ?_
          refine a_gt 10 rfl rfl rfl rfl rfl rfl rfl (by decide +kernel) (q_fieldAddr tab rfl rfl rfl rfl rfl rfl rfl) ?_
          refine a_gt 11 rfl rfl rfl rfl rfl rfl rfl (by decide +kernel) (q_ld1 tab rfl rfl rfl (by first | ((repeat (first | exact List.Mem.head _ | apply List.Mem.tail)); done) | fail) rfl) ?_
          refine a_gt 12 rfl rfl rfl rfl rfl rfl rfl (by decide +kernel) (q_eql rfl rfl) ?_
          rw [show decide ((w32 : Int) = 0) = false from decide_eq_false (by omega)]
          refine a_gt 13 rfl rfl rfl rfl rfl rfl rfl (by decide +kernel) (q_pick_f rfl rfl) ?_
          refine a_q 14 rfl rfl rfl rfl rfl (by decide +kernel) (q_pick_t rfl rfl) ?_
          refine a_q 15 rfl rfl rfl rfl rfl (by decide +kernel) (q_move rfl) ?_
          refine a_gf 16 rfl rfl rfl rfl rfl rfl rfl rfl (by decide +kernel) ?_
          refine a_gf 17 rfl rfl rfl rfl rfl rfl rfl rfl (by decide +kernel) ?_
          refine a_gf 18 rfl rfl rfl rfl rfl rfl rfl rfl (by decide +kernel) ?_
          refine a_gf 19 rfl rfl rfl rfl rfl rfl rfl rfl (by decide +kernel) ?_
          refine a_gf 20 rfl rfl rfl rfl rfl rfl rfl rfl (by decide +kernel) ?_
          refine a_gf 21 rfl rfl rfl rfl rfl rfl rfl rfl (by decide +kernel) ?_
          refine a_gf 22 rfl rfl rfl rfl rfl rfl rfl rfl (by decide +kernel) ?_
          refine a_q 23 rfl rfl rfl rfl rfl (by decide +kernel) (q_pick_f rfl rfl) ?_
          refine a_q 24 rfl rfl rfl rfl rfl (by decide +kernel) (q_assign rfl) ?_
          refine a_done (by decide +kernel) ?_
          (repeat (first | (refine i_q ?_; (refine d_then ?_)) | refine c_ret ?_))
          exact t_hp (hp' := []) (fun w h => h.psub (by first | ((repeat (first | exact PSub.nil | exact Ext.head | apply Ext.tail | apply PSub.cons)); done) | fail)) (t_ret1 Try.results38 rfl ⟨false, rfl, rfl, fun h => (by cases h)⟩)
    · have heq : (((a0 : Int) == (z0 : Int)) && (((a1 : Int) == (z1 : Int)) && (((a2 : Int) == (z2 : Int)) && (((a3 : Int) == (z3 : Int)) && ((a4 : Int) == (z4 : Int)))))) = false := by
        rw [Bool.eq_false_iff]
        intro h
        simp at h
        exact hall (by omega)
      refine a_q 0 rfl rfl rfl rfl rfl (by decide +kernel) (q_move rfl) ?_
      refine a_q 1 rfl rfl rfl rfl rfl (by decide +kernel) (q_move rfl) ?_
      refine a_gt 2 rfl rfl rfl rfl rfl rfl rfl (by decide +kernel) (q_fieldAddr tab rfl rfl rfl rfl rfl rfl rfl) ?_
      refine a_gt 3 rfl rfl rfl rfl rfl rfl rfl (by decide +kernel) (q_ldN tab rfl rfl rfl rfl (by first | ((repeat (first | exact List.Mem.head _ | apply List.Mem.tail)); done) | fail) (by first | ((repeat (first | exact TakeR.nil | apply TakeR.cons | apply CutR.zero | apply CutR.skip)); done) | fail)) ?_
      refine a_gt 4 rfl rfl rfl rfl rfl rfl rfl (by decide +kernel) (q_ldN tab rfl rfl rfl rfl (by first | ((repeat (first | exact List.Mem.head _ | apply List.Mem.tail)); done) | fail) (by first | ((repeat (first | exact TakeR.nil | apply TakeR.cons | apply CutR.zero | apply CutR.skip)); done) | fail)) ?_
      refine a_gt 5 rfl rfl rfl rfl rfl rfl rfl (by decide +kernel) (q_eqA5 rfl rfl) ?_
      rw [heq]
      refine a_q 6 rfl rfl rfl rfl rfl (by decide +kernel) (q_pick_t rfl rfl) ?_
      refine a_q 7 rfl rfl rfl rfl rfl (by decide +kernel) (q_move rfl) ?_
      refine a_gf 8 rfl rfl rfl rfl rfl rfl rfl rfl (by decide +kernel) ?_
      refine a_gf 9 rfl rfl rfl rfl rfl rfl rfl rfl (by decide +kernel) ?_
      refine a_gu 10 rfl rfl rfl rfl rfl rfl rfl (by decide +kernel) ?_
      refine a_gu 11 rfl rfl rfl rfl rfl rfl rfl (by decide +kernel) ?_
      refine a_gu 12 rfl rfl rfl rfl rfl rfl rfl (by decide +kernel) ?_
      refine a_gf 13 rfl rfl rfl rfl rfl rfl rfl rfl (by decide +kernel) ?_
      refine a_q 14 rfl rfl rfl rfl rfl (by decide +kernel) (q_pick_f rfl rfl) ?_
      refine a_q 15 rfl rfl rfl rfl rfl (by decide +kernel) (q_move rfl) ?_
      refine a_gf 16 rfl rfl rfl rfl rfl rfl rfl rfl (by decide +kernel) ?_
      refine a_gf 17 rfl rfl rfl rfl rfl rfl rfl rfl (by decide +kernel) ?_
      refine a_gf 18 rfl rfl rfl rfl rfl rfl rfl rfl (by decide +kernel) ?_
      refine a_gf 19 rfl rfl rfl rfl rfl rfl rfl rfl (by decide +kernel) ?_
      refine a_gf 20 rfl rfl rfl rfl rfl rfl rfl rfl (by decide +kernel) ?_
      refine a_gf 21 rfl rfl rfl rfl rfl rfl rfl rfl (by decide +kernel) ?_
      refine a_gf 22 rfl rfl rfl rfl rfl rfl rfl rfl (by decide +kernel) ?_
      refine a_q 23 rfl rfl rfl rfl rfl (by decide +kernel) (q_pick_f rfl rfl) ?_
      refine a_q 24 rfl rfl rfl rfl rfl (by decide +kernel) (q_assign rfl) ?_
      refine a_done (by decide +kernel) ?_
      (repeat (first | (refine i_q ?_; (refine d_then ?_)) | refine c_ret ?_))
      exact t_hp (hp' := []) (fun w h => h.psub (by first | ((repeat (first | exact PSub.nil | exact Ext.head | apply Ext.tail | apply PSub.cons)); done) | fail)) (t_ret1 Try.results38 rfl ⟨false, rfl, rfl, fun h => (by cases h)⟩)
end Go.Proofs.Ytidekbijkknlmaa

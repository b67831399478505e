/-
  cmd.Put, walked.
-/
import Derived.Test.YtidekbijkknlmaaC2
import Derived.Test.YtidekbijkknlmaaB2
set_option linter.unusedVariables false
set_option maxRecDepth 100000
namespace Go.Proofs.Ytidekbijkknlmaa
open Go.RowKit
attribute [local irreducible] TL TC TQ TK TO Qt TA
def asI (a0 a1 a2 a3 a4 : Nat) : List Int := [(a0 : Int), (a1 : Int), (a2 : Int), (a3 : Int), (a4 : Int)]
/-- A command's bytes. -/
def encC (code a0 a1 a2 a3 a4 w32 : Nat) (b : List Int) (s : Nat) (g : Bool) : List Int := ((code : Int) :: (asI a0 a1 a2 a3 a4).take s) ++ (if g = true then be4 w32 else []) ++ b
theorem src_as {code a0 a1 a2 a3 a4 w32 s b1 n c : Nat} {A : Option Addr} {w : World} (hs : s ≤ 5) (h : (blk b1 [.int .u8 code, .int .u8 a0, .int .u8 a1, .int .u8 a2, .int .u8 a3, .int .u8 a4, .int .u32 w32, .slice A n c] 63).C w) : SrcAt w (some ⟨b1, 0 + 1, none⟩) (s * 1) (bv ((asI a0 a1 a2 a3 a4).take s)) := by
  rcases (by omega : s = 0 ∨ s = 1 ∨ s = 2 ∨ s = 3 ∨ s = 4 ∨ s = 5) with rfl | rfl | rfl | rfl | rfl | rfl
  · exact ⟨rfl, fun h => by omega⟩
  · exact ⟨rfl, fun _ => ⟨b1, 1, rfl, blk_cells (q := 1) h rfl⟩⟩
  · exact ⟨rfl, fun _ => ⟨b1, 1, rfl, blk_cells (q := 2) h rfl⟩⟩
  · exact ⟨rfl, fun _ => ⟨b1, 1, rfl, blk_cells (q := 3) h rfl⟩⟩
  · exact ⟨rfl, fun _ => ⟨b1, 1, rfl, blk_cells (q := 4) h rfl⟩⟩
  · exact ⟨rfl, fun _ => ⟨b1, 1, rfl, blk_cells (q := 5) h rfl⟩⟩
theorem rowg_S {e : TypeId} {size g b n k c : Nat} {xs l : List Value} (h : (row e size (.slice (some ⟨g, 0, none⟩) n c) k xs).S b) : (blk g l e).S b := by
  injection h with h
  exact h.symm
attribute [local irreducible] blk row bytesA starL memA segA roB
set_option maxHeartbeats 16000000 in
theorem cput_spec (code a0 a1 a2 a3 a4 w32 : Nat) (hcd : code ≤ 255) (ha : a0 ≤ 255 ∧ a1 ≤ 255 ∧ a2 ≤ 255 ∧ a3 ≤ 255 ∧ a4 ≤ 255) (hw32 : w32 < 4294967296) (A : Option Addr) (n c : Nat) (b : List Int) (w : World) (hr : Ro (fps []) w (roB A n b)) (hn : n ≤ 50) : Calls Try.prog 22 #[.agg #[.int .u8 code, .int .u8 a0, .int .u8 a1, .int .u8 a2, .int .u8 a3, .int .u8 a4, .int .u32 w32, .slice A n c]] w (Ret w [] fun v B => (v = .tuple #[.slice none 0 0, .int .i64 1] ∧ B = []) ∨ ∃ s g m Av cv, FitsOk code a0 a1 a2 a3 a4 w32 n s g m ∧ v = .tuple #[.slice Av (encC code a0 a1 a2 a3 a4 w32 b s g).length cv, .int .i64 0] ∧ B = [bytesA (.slice Av (encC code a0 a1 a2 a3 a4 w32 b s g).length cv) (encC code a0 a1 a2 a3 a4 w32 b s g)]) := by
  have hbl := roB_len hr.is
  have hbo := roB_oct hr.is
  refine enter (vs := [.agg #[.int .u8 code, .int .u8 a0, .int .u8 a1, .int .u8 a2, .int .u8 a3, .int .u8 a4, .int .u32 w32, .slice A n c]]) Try.func22 rfl Try.ntmps22 rfl (Hold.nil w) ?_
  have hmx : maxLen = 2 ^ 63 - 1 := rfl
  (repeat (first | (refine i_dst ?_; (first | (refine i_assign ?_; refine l_q rfl rfl rfl (q_assign rfl) ?_) | (refine i_load ?_; refine l_q rfl rfl rfl (by ((exact q_ldN tab rfl rfl rfl rfl (by first | ((repeat (first | exact List.Mem.head _ | apply List.Mem.tail)); done) | fail) (by first | ((repeat (first | exact TakeR.nil | apply TakeR.cons | apply CutR.zero | apply CutR.skip)); done) | fail)))) ?_) | (refine i_box ?_; (refine l_boxA rfl rfl (fun _ => ?_))))) | refine d_seq ?_ | refine c_region ?_ | refine l_nil ?_ | (refine i_q ?_; (refine d_then ?_))))
  rename_i b1
  (refine l_call0 rfl rfl Try.func38 rfl (by decide) (fun w' h => fits_spec code a0 a1 a2 a3 a4 w32 hcd ha.1 A n c w') (fun v B hv => ?_); obtain ⟨ok, rfl, rfl, hfit⟩ := hv)
  cases ok with
  | false =>
    (repeat (first | (refine i_dst ?_; (first | (refine i_assign ?_; refine l_q rfl rfl rfl (q_assign rfl) ?_) | refine l_q rfl rfl rfl (by (exact q_not rfl)) ?_)) | refine d_seq ?_ | refine c_region ?_ | refine l_nil ?_ | (refine i_q ?_; (first | refine d_then ?_ | refine d_then_ret ?_)) | refine c_ret ?_ | (refine i_cond ?_; (refine c_ct rfl (by (rfl)) ?_))))
    exact t_hp (hp' := []) (fun w h => h.psub (by first | ((repeat (first | exact PSub.nil | exact Ext.head | apply Ext.tail | apply PSub.cons)); done) | fail)) (t_ret2 Try.results22 rfl rfl (.inl ⟨rfl, rfl⟩))
  | true =>
    obtain ⟨s, g, m, hfit⟩ := hfit rfl
    obtain ⟨⟨hs5, -⟩, hg2, -⟩ := shape_some hfit.sh
    have hao : Oct (asI a0 a1 a2 a3 a4) := fun x hx => by
      simp only [asI, List.mem_cons, List.not_mem_nil, or_false] at hx
      rcases hx with rfl | rfl | rfl | rfl | rfl <;> omega
    have h1o : Oct ((code : Int) :: (asI a0 a1 a2 a3 a4).take s) := fun x hx => by
      rcases List.mem_cons.1 hx with rfl | hx
      · omega
      · exact hao x (List.mem_of_mem_take hx)
    have h1l : ((code : Int) :: (asI a0 a1 a2 a3 a4).take s).length = 1 + s := by
      rw [List.length_cons, List.length_take]
      show min s 5 + 1 = _
      omega
    (repeat (first | (refine i_dst ?_; (first | (refine i_load ?_; refine l_q rfl rfl rfl (by ((exact q_ld1 tab rfl rfl rfl (by first | ((repeat (first | exact List.Mem.head _ | apply List.Mem.tail)); done) | fail) (by (rfl))))) ?_) | (refine l_q rfl rfl rfl (by (first | (apply iq_fld; (exact q_fieldAddr tab rfl rfl rfl rfl rfl rfl rfl)) | exact q_not rfl)) ?_))) | refine d_seq ?_ | refine c_region ?_ | refine l_nil ?_ | (refine i_q ?_; (refine d_then ?_)) | refine c_skip ?_ | (refine i_cond ?_; (refine c_cf rfl (by (rfl)) ?_))))
    (refine l_call0 rfl rfl Try.func39 rfl (by decide) (fun w' h => shape_spec code hcd w') (fun v B hv => ?_); obtain ⟨rfl, rfl⟩ := hv)
    rw [hfit.sh, shV]
    (repeat (first | (refine i_dst ?_; (first | (refine i_move ?_; refine l_q rfl rfl rfl (q_move rfl) ?_) | (refine i_assign ?_; refine l_q rfl rfl rfl (q_assign rfl) ?_) | refine l_q rfl rfl rfl (by (exact q_extract rfl rfl)) ?_)) | refine d_seq ?_ | refine l_nil ?_ | (refine i_q ?_; (refine d_then ?_))))
    (refine a_begin mixed [blk b1 [.int .u8 code, .int .u8 a0, .int .u8 a1, .int .u8 a2, .int .u8 a3, .int .u8 a4, .int .u32 w32, .slice A n c] 63] 8 rfl (fun w h => h.subl (by first | ((repeat (first | exact SubL.nil | apply SubL.keep | apply SubL.skip)); done) | fail)) ?_)
    refine a_q 0 rfl rfl rfl rfl rfl (by decide +kernel) (q_fieldAddr tab rfl rfl rfl rfl rfl rfl rfl) ?_
    refine a_q 1 rfl rfl rfl rfl rfl (by decide +kernel) (q_ld1 tab rfl rfl rfl (by first | ((repeat (first | exact List.Mem.head _ | apply List.Mem.tail)); done) | fail) rfl) ?_
    refine a_q 3 rfl rfl rfl rfl rfl (by decide +kernel) (q_fieldAddr tab rfl rfl rfl rfl rfl rfl rfl) ?_
    refine a_q 4 rfl rfl rfl rfl rfl (by decide +kernel) (q_move rfl) ?_
    refine a_q 5 rfl rfl rfl rfl rfl (by decide +kernel) (q_arHi (h := s) tab rfl rfl rfl rfl (by omega) (by omega)) ?_
    (refine a_e 2 rfl (by decide +kernel) rfl (fun K hK => e_bldS tab rfl rfl rfl rfl (by first | exact CellsOf.agg | exact CellsOf.one rfl) (by first | ((repeat (first | exact RepR.zero | exact AppR.nil | apply RepR.succ | apply AppR.cons)); done) | fail) (by first | ((repeat (first | exact FillR.nil | exact LSets.nil | exact LSet.zero | exact CellsOf.agg | exact rfl | exact CellsOf.one rfl | apply FillR.cons | apply LSets.cons | apply LSet.succ)); done) | fail) (fun w => by kernel_rfl) (fun g2 => hK _ _ (fun w h => h.subl (by first | ((repeat (first | exact SubL.nil | apply SubL.keep | apply SubL.skip)); done) | fail)) ?_)); clear hK)
    refine a_hp (hp' := [row 5 1 (.slice (some ⟨g2, 0, none⟩) 1 1) 1 (bv [(code : Int)]), blk b1 [.int .u8 code, .int .u8 a0, .int .u8 a1, .int .u8 a2, .int .u8 a3, .int .u8 a4, .int .u32 w32, .slice A n c] 63]) (fun w h => (h.see (i := 0) rfl (fun h => row_of_blk h 1 1 1 (Nat.le_refl _) (by omega) rfl (bv [(code : Int)]) rfl) (fun b hb => rowg_S hb)).psub (by first | ((repeat (first | exact PSub.nil | exact Ext.head | apply Ext.tail | apply PSub.cons)); done) | fail)) (fun w h => h.subl (by first | ((repeat (first | exact SubL.nil | apply SubL.keep | apply SubL.skip)); done) | fail)) ?_
    (refine a_e 6 rfl (by decide +kernel) rfl (fun K hK => e_app tab rfl rfl rfl rowB (by first | ((repeat (first | exact Ext.head | apply Ext.tail)); done) | fail) (news := bv ((asI a0 a1 a2 a3 a4).take s)) (fun w h => src_as hs5 (h.mem (X := blk b1 [.int .u8 code, .int .u8 a0, .int .u8 a1, .int .u8 a2, .int .u8 a3, .int .u8 a4, .int .u32 w32, .slice A n c] 63) (by first | ((repeat (first | exact List.Mem.head _ | apply List.Mem.tail)); done) | fail))) (bv_one _) (by omega) (by omega) (fun A5 c5 hA1 hA2 => hK _ _ (fun w h => h.subl (by first | ((repeat (first | exact SubL.nil | apply SubL.keep | apply SubL.skip)); done) | fail)) ?_)); clear hK)
    rw [← bv_append, List.singleton_append]
    refine a_q 7 rfl rfl rfl rfl rfl (by decide +kernel) (q_assign rfl) ?_
    refine a_done (by decide +kernel) ?_
    cases g with
    | true =>
      have hek : encC code a0 a1 a2 a3 a4 w32 b s true = ((code : Int) :: (asI a0 a1 a2 a3 a4).take s) ++ be4 w32 ++ b := by rw [encC, if_pos rfl]
      have hkl : (((code : Int) :: (asI a0 a1 a2 a3 a4).take s) ++ be4 w32 ++ b).length = 1 + s + 4 + n := by rw [List.length_append, List.length_append, h1l, hbl]; rfl
      have hoe : Oct (((code : Int) :: (asI a0 a1 a2 a3 a4).take s) ++ be4 w32 ++ b) := (h1o.append (be4_oct w32)).append hbo
      (repeat (first | (refine i_dst ?_; (first | (refine i_move ?_; refine l_q rfl rfl rfl (q_move rfl) ?_) | (refine i_load ?_; refine l_q rfl rfl rfl (by ((exact q_ld1 tab rfl rfl rfl (by first | ((repeat (first | exact List.Mem.head _ | apply List.Mem.tail)); done) | fail) (by (rfl))))) ?_) | (refine l_q rfl rfl rfl (by (first | (apply iq_fld; (exact q_fieldAddr tab rfl rfl rfl rfl rfl rfl rfl)) | (apply iq_cv; (exact q_conv tab rfl rfl rfl (by (exact wr_u64 (by omega))))))) ?_))) | refine d_seq ?_ | refine c_region ?_ | refine l_nil ?_ | (refine i_q ?_; (refine d_then ?_)) | (refine i_cond ?_; (refine c_ct rfl (by (rfl)) ?_))))
      (refine l_call0 rfl rfl Try.func40 rfl (by decide) (fun w' h => nput_spec (l := ((code : Int) :: (asI a0 a1 a2 a3 a4).take s)) (Ro.bytes (Ro.empty (bytesA_of h1l h1o (h.mem (X := row 5 1 (.slice A5 (1 + s) c5) (1 + s) (bv (((code : Int) :: (asI a0 a1 a2 a3 a4).take s)))) (by first | ((repeat (first | exact List.Mem.head _ | apply List.Mem.tail)); done) | fail))))) ⟨by omega, by omega⟩ w32 hw32) (fun v B hv => ?_); obtain ⟨bq, cq, rfl, hq1, hq2, rfl⟩ := hv)
      (repeat (first | (refine i_dst ?_; (first | (refine i_move ?_; refine l_q rfl rfl rfl (q_move rfl) ?_) | (refine i_assign ?_; refine l_q rfl rfl rfl (q_assign rfl) ?_) | (refine i_load ?_; refine l_q rfl rfl rfl (by ((exact q_ld1 tab rfl rfl rfl (by first | ((repeat (first | exact List.Mem.head _ | apply List.Mem.tail)); done) | fail) (by (rfl))))) ?_) | (refine i_bin ?_; refine l_q rfl rfl rfl (by (exact q_neq rfl rfl)) ?_) | (refine l_q rfl rfl rfl (by (first | exact q_extract rfl rfl | (apply iq_fld; (exact q_fieldAddr tab rfl rfl rfl rfl rfl rfl rfl)))) ?_))) | refine d_seq ?_ | refine c_region ?_ | refine l_nil ?_ | (refine i_q ?_; (refine d_then ?_)) | refine c_skip ?_ | (refine i_cond ?_; (refine c_cf rfl (by (rfl)) ?_))))
      (refine l_app tab rfl rfl rfl rowB (by first | ((repeat (first | exact Ext.head | apply Ext.tail)); done) | fail) (news := bv b) (fun w h => by rw [Nat.mul_one]; exact roB_src (h.ro hr)) (bv_one _) (by omega) (by omega) (fun A7 c7 hA1 hA2 => ?_))
      rw [← bv_append]
      (repeat (first | (refine i_dst ?_; ((refine i_assign ?_; refine l_q rfl rfl rfl (q_assign rfl) ?_))) | refine l_nil ?_ | (refine i_q ?_; (refine d_then ?_)) | refine c_ret ?_))
      exact t_hp (hp' := [bytesA (.slice A7 (1 + s + 4 + n) c7) (((code : Int) :: (asI a0 a1 a2 a3 a4).take s) ++ be4 w32 ++ b)]) (fun w h => (h.see (i := 0) (Y := bytesA (.slice A7 (1 + s + 4 + n) c7) (((code : Int) :: (asI a0 a1 a2 a3 a4).take s) ++ be4 w32 ++ b)) rfl (fun h => bytesA_of hkl hoe h) (fun b hb => bytesA_rowS b hb)).psub (by first | ((repeat (first | exact PSub.nil | exact Ext.head | apply Ext.tail | apply PSub.cons)); done) | fail)) (t_ret2 Try.results22 rfl rfl (.inr ⟨s, true, m, A7, c7, hfit, by rw [hek, hkl], by rw [hek, hkl]⟩))
    | false =>
      have hek : encC code a0 a1 a2 a3 a4 w32 b s false = ((code : Int) :: (asI a0 a1 a2 a3 a4).take s) ++ b := by rw [encC, if_neg (by simp), List.append_nil]
      have hkl : (((code : Int) :: (asI a0 a1 a2 a3 a4).take s) ++ b).length = 1 + s + n := by rw [List.length_append, h1l, hbl]
      have hoe : Oct (((code : Int) :: (asI a0 a1 a2 a3 a4).take s) ++ b) := h1o.append hbo
      (repeat (first | (refine i_dst ?_; (first | (refine i_move ?_; refine l_q rfl rfl rfl (q_move rfl) ?_) | (refine i_load ?_; refine l_q rfl rfl rfl (by ((exact q_ld1 tab rfl rfl rfl (by first | ((repeat (first | exact List.Mem.head _ | apply List.Mem.tail)); done) | fail) (by (rfl))))) ?_) | (refine l_q rfl rfl rfl (by ((apply iq_fld; (exact q_fieldAddr tab rfl rfl rfl rfl rfl rfl rfl)))) ?_))) | refine d_seq ?_ | refine c_region ?_ | refine l_nil ?_ | (refine i_q ?_; (refine d_then ?_)) | refine c_skip ?_ | (refine i_cond ?_; (refine c_cf rfl (by (rfl)) ?_))))
      (refine l_app tab rfl rfl rfl rowB (by first | ((repeat (first | exact Ext.head | apply Ext.tail)); done) | fail) (news := bv b) (fun w h => by rw [Nat.mul_one]; exact roB_src (h.ro hr)) (bv_one _) (by omega) (by omega) (fun A7 c7 hA1 hA2 => ?_))
      rw [← bv_append]
      (repeat (first | (refine i_dst ?_; ((refine i_assign ?_; refine l_q rfl rfl rfl (q_assign rfl) ?_))) | refine l_nil ?_ | (refine i_q ?_; (refine d_then ?_)) | refine c_ret ?_))
      exact t_hp (hp' := [bytesA (.slice A7 (1 + s + n) c7) (((code : Int) :: (asI a0 a1 a2 a3 a4).take s) ++ b)]) (fun w h => (h.see (i := 0) (Y := bytesA (.slice A7 (1 + s + n) c7) (((code : Int) :: (asI a0 a1 a2 a3 a4).take s) ++ b)) rfl (fun h => bytesA_of hkl hoe h) (fun b hb => bytesA_rowS b hb)).psub (by first | ((repeat (first | exact PSub.nil | exact Ext.head | apply Ext.tail | apply PSub.cons)); done) | fail)) (t_ret2 Try.results22 rfl rfl (.inr ⟨s, false, m, A7, c7, hfit, by rw [hek, hkl], by rw [hek, hkl]⟩))
end Go.Proofs.Ytidekbijkknlmaa

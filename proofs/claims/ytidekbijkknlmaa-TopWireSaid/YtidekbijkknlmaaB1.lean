/-
  Reverse (of four bytes), Grow (of nil), Concat (of two); num.width, walked.
-/
import Derived.Test.YtidekbijkknlmaaSLi
import Derived.Test.YtidekbijkknlmaaI2
import Derived.Test.YtidekbijkknlmaaM8
set_option linter.unusedVariables false
set_option maxRecDepth 100000
namespace Go.Proofs.Ytidekbijkknlmaa
open Go.RowKit
attribute [local irreducible] TL TC TQ TK TO Qt TA
theorem row_cut0 {e : TypeId} {size b m c : Nat} {xs : List Value} {w : World} (hm : 0 < m) (h : (row e size (.slice (some ⟨b, 0, none⟩) m c) m xs).C w) : (row e size (.slice (some ⟨b, 0, none⟩) 0 c) 0 []).C w := by
  obtain ⟨g, cap, junk, e1, h1, h2, h3, h4⟩ := row_blk h hm
  injection e1 with e1 _ e3
  injection e1 with e1
  injection e1 with e1
  subst e1 e3
  exact row_of_blk h4 size 0 c (Nat.zero_le _) h2 h3 [] (by simp)
theorem row_cut0S {e : TypeId} {size b b' m c : Nat} {xs : List Value} (h : (row e size (.slice (some ⟨b, 0, none⟩) 0 c) 0 []).S b') : (row e size (.slice (some ⟨b, 0, none⟩) m c) m xs).S b' := h
def revC (a b c d : Int) (t : Nat) : List Value := match t with
  | 0 => [.int .u8 a, .int .u8 b, .int .u8 c, .int .u8 d]
  | 1 => [.int .u8 d, .int .u8 b, .int .u8 c, .int .u8 a]
  | _ => [.int .u8 d, .int .u8 c, .int .u8 b, .int .u8 a]
attribute [local irreducible] blk row bytesA starL memA segA roB
set_option maxHeartbeats 4000000 in
theorem rev4_spec {w : World} {g cp : Nat} {a b c d : Int} {junk : List Value} (hA : Hold [blk g (.int .u8 a :: .int .u8 b :: .int .u8 c :: .int .u8 d :: junk) 5] w) (hc : 4 ≤ cp ∧ cp ≤ maxLen) :
    Calls Try.prog 63 #[.slice (some ⟨g, 0, none⟩) 4 cp] w (Ret w [blk g (.int .u8 a :: .int .u8 b :: .int .u8 c :: .int .u8 d :: junk) 5] fun v B => B = [blk g (.int .u8 d :: .int .u8 c :: .int .u8 b :: .int .u8 a :: junk) 5]) := by
  refine enter (vs := [.slice (some ⟨g, 0, none⟩) 4 cp]) Try.func63 rfl Try.ntmps63 rfl hA ?_
  (repeat (first | (refine i_dst ?_; (first | (refine i_move ?_; refine l_q rfl rfl rfl (q_move rfl) ?_) | (refine i_assign ?_; refine l_q rfl rfl rfl (q_assign rfl) ?_) | (refine i_bin ?_; refine l_q rfl rfl rfl (by (exact q_sub rfl rfl (by (exact wr_i64 (by omega))))) ?_) | (refine i_blt ?_; refine l_q rfl rfl rfl (by (exact q_len tab rfl rfl)) ?_))) | refine d_seq ?_ | refine c_region ?_ | refine l_nil ?_ | refine c_block ?_ | (refine i_q ?_; (refine d_then ?_))))
  refine d_loop (T := Nat) [0] (fun t => [(2, .int .i64 (t : Nat)), (3, .int .i64 (3 - (t : Nat)))]) [] (fun t => [blk g (revC a b c d t ++ junk) 5]) (fun t => t ≤ 2) (fun t => 2 - t) 0 (by first | ((repeat (first | exact Pick.nil | exact rfl | apply Pick.cons)); done) | fail) (by omega) (by first | ((repeat (first | exact trivial | exact rfl | apply Sub.cons | exact look_int rfl (by omega) | exact look_int rfl (by simp) | exact look_int rfl (by simp; omega))); done) | fail) (fun w h => h) ?_
  intro t ht
  rcases (by omega : t = 0 ∨ t = 1 ∨ t = 2) with rfl | rfl | rfl
  · dsimp only [revC, List.cons_append, List.nil_append]
    (repeat (first | (refine i_dst ?_; (first | (refine i_move ?_; refine l_q rfl rfl rfl (q_move rfl) ?_) | (refine i_bin ?_; refine l_q rfl rfl rfl (by (exact q_lss rfl rfl)) ?_))) | refine d_seq ?_ | refine c_region ?_ | refine l_nil ?_ | refine c_block ?_ | (refine i_q ?_; (refine d_then ?_)) | refine c_skip ?_ | (refine i_cond ?_; (refine c_ct rfl (by (rfl)) ?_))))
    (refine a_beginE mixed [blk g (.int .u8 a :: .int .u8 b :: .int .u8 c :: .int .u8 d :: junk) 5] [] 16 13 rfl (fun w h => h.subl (by first | ((repeat (first | exact SubL.nil | apply SubL.keep | apply SubL.skip)); done) | fail)) (fun w h => h.subl (by first | ((repeat (first | exact SubL.nil | apply SubL.keep | apply SubL.skip)); done) | fail)) ?_)
    ((refine a_q 0 rfl rfl rfl rfl rfl (by decide +kernel) (q_move rfl) ?_; refine a_q 1 rfl rfl rfl rfl rfl (by decide +kernel) (q_move rfl) ?_; refine a_q 2 rfl rfl rfl rfl rfl (by decide +kernel) (q_move rfl) ?_; refine a_q 3 rfl rfl rfl rfl rfl (by decide +kernel) (q_move rfl) ?_; refine a_q 4 rfl rfl rfl rfl rfl (by decide +kernel) (q_move rfl) ?_; refine a_q 5 rfl rfl rfl rfl rfl (by decide +kernel) (q_move rfl) ?_; refine a_q 6 rfl rfl rfl rfl rfl (by decide +kernel) (by (exact q_indexAddr1 tab rfl rfl rfl rfl (by omega))) ?_; ((refine a_y 7 rfl rfl rfl rfl rfl (by decide +kernel) (by ((exact q_ld1 tab rfl rfl rfl (by first | ((repeat (first | exact List.Mem.head _ | apply List.Mem.tail)); done) | fail) (by (rfl))))) ?_)); refine a_q 8 rfl rfl rfl rfl rfl (by decide +kernel) (q_move rfl) ?_; refine a_q 9 rfl rfl rfl rfl rfl (by decide +kernel) (q_move rfl) ?_; refine a_q 10 rfl rfl rfl rfl rfl (by decide +kernel) (by (exact q_indexAddr1 tab rfl rfl rfl rfl (by omega))) ?_; ((refine a_y 11 rfl rfl rfl rfl rfl (by decide +kernel) (by ((exact q_ld1 tab rfl rfl rfl (by first | ((repeat (first | exact List.Mem.head _ | apply List.Mem.tail)); done) | fail) (by (rfl))))) ?_)); refine a_q 12 rfl rfl rfl rfl rfl (by decide +kernel) (by (exact q_indexAddr1 tab rfl rfl rfl rfl (by omega))) ?_))
    (refine a_e 13 rfl (by decide +kernel) rfl (fun K hK => e_set tab rfl rfl rfl rfl (by first | ((repeat (first | exact Upd.head | apply Upd.tail)); done) | fail) (by first | ((repeat (first | exact LSet.zero | apply LSet.succ)); done) | fail) (hK _ _ (fun w h => h.subl (by first | ((repeat (first | exact SubL.nil | apply SubL.keep | apply SubL.skip)); done) | fail)) ?_)); clear hK)
    ((refine a_q 14 rfl rfl rfl rfl rfl (by decide +kernel) (by (exact q_indexAddr1 tab rfl rfl rfl rfl (by omega))) ?_))
    (refine a_e 15 rfl (by decide +kernel) rfl (fun K hK => e_set tab rfl rfl rfl rfl (by first | ((repeat (first | exact Upd.head | apply Upd.tail)); done) | fail) (by first | ((repeat (first | exact LSet.zero | apply LSet.succ)); done) | fail) (hK _ _ (fun w h => h.subl (by first | ((repeat (first | exact SubL.nil | apply SubL.keep | apply SubL.skip)); done) | fail)) ?_)); clear hK)
    refine a_done (by decide +kernel) ?_
    (repeat (first | (refine i_dst ?_; (first | (refine i_move ?_; refine l_q rfl rfl rfl (q_move rfl) ?_) | (refine i_assign ?_; refine l_q rfl rfl rfl (q_assign rfl) ?_) | (refine i_bin ?_; refine l_q rfl rfl rfl (by (first | exact q_add rfl rfl (by (first | exact wr_i64 (by omega) | rfl)) | exact q_sub rfl rfl (by (exact wr_i64 (by omega))))) ?_))) | refine c_region ?_ | refine l_nil ?_ | (refine i_q ?_; (first | refine d_then ?_ | refine t_then ?_ | refine t_block ?_))))
    exact k_again 1 (by omega) (by omega) (by first | ((repeat (first | exact trivial | exact rfl | apply Sub.cons | exact look_int rfl (by omega) | exact look_int rfl (by simp) | exact look_int rfl (by simp; omega))); done) | fail) (fun w h => h)
  · dsimp only [revC, List.cons_append, List.nil_append]
    (repeat (first | (refine i_dst ?_; (first | (refine i_move ?_; refine l_q rfl rfl rfl (q_move rfl) ?_) | (refine i_bin ?_; refine l_q rfl rfl rfl (by (exact q_lss rfl rfl)) ?_))) | refine d_seq ?_ | refine c_region ?_ | refine l_nil ?_ | refine c_block ?_ | (refine i_q ?_; (refine d_then ?_)) | refine c_skip ?_ | (refine i_cond ?_; (refine c_ct rfl (by (rfl)) ?_))))
    (refine a_beginE mixed [blk g (.int .u8 d :: .int .u8 b :: .int .u8 c :: .int .u8 a :: junk) 5] [] 16 13 rfl (fun w h => h.subl (by first | ((repeat (first | exact SubL.nil | apply SubL.keep | apply SubL.skip)); done) | fail)) (fun w h => h.subl (by first | ((repeat (first | exact SubL.nil | apply SubL.keep | apply SubL.skip)); done) | fail)) ?_)
    ((refine a_q 0 rfl rfl rfl rfl rfl (by decide +kernel) (q_move rfl) ?_; refine a_q 1 rfl rfl rfl rfl rfl (by decide +kernel) (q_move rfl) ?_; refine a_q 2 rfl rfl rfl rfl rfl (by decide +kernel) (q_move rfl) ?_; refine a_q 3 rfl rfl rfl rfl rfl (by decide +kernel) (q_move rfl) ?_; refine a_q 4 rfl rfl rfl rfl rfl (by decide +kernel) (q_move rfl) ?_; refine a_q 5 rfl rfl rfl rfl rfl (by decide +kernel) (q_move rfl) ?_; refine a_q 6 rfl rfl rfl rfl rfl (by decide +kernel) (by (exact q_indexAddr1 tab rfl rfl rfl rfl (by omega))) ?_; ((refine a_y 7 rfl rfl rfl rfl rfl (by decide +kernel) (by ((exact q_ld1 tab rfl rfl rfl (by first | ((repeat (first | exact List.Mem.head _ | apply List.Mem.tail)); done) | fail) (by (rfl))))) ?_)); refine a_q 8 rfl rfl rfl rfl rfl (by decide +kernel) (q_move rfl) ?_; refine a_q 9 rfl rfl rfl rfl rfl (by decide +kernel) (q_move rfl) ?_; refine a_q 10 rfl rfl rfl rfl rfl (by decide +kernel) (by (exact q_indexAddr1 tab rfl rfl rfl rfl (by omega))) ?_; ((refine a_y 11 rfl rfl rfl rfl rfl (by decide +kernel) (by ((exact q_ld1 tab rfl rfl rfl (by first | ((repeat (first | exact List.Mem.head _ | apply List.Mem.tail)); done) | fail) (by (rfl))))) ?_)); refine a_q 12 rfl rfl rfl rfl rfl (by decide +kernel) (by (exact q_indexAddr1 tab rfl rfl rfl rfl (by omega))) ?_))
    (refine a_e 13 rfl (by decide +kernel) rfl (fun K hK => e_set tab rfl rfl rfl rfl (by first | ((repeat (first | exact Upd.head | apply Upd.tail)); done) | fail) (by first | ((repeat (first | exact LSet.zero | apply LSet.succ)); done) | fail) (hK _ _ (fun w h => h.subl (by first | ((repeat (first | exact SubL.nil | apply SubL.keep | apply SubL.skip)); done) | fail)) ?_)); clear hK)
    ((refine a_q 14 rfl rfl rfl rfl rfl (by decide +kernel) (by (exact q_indexAddr1 tab rfl rfl rfl rfl (by omega))) ?_))
    (refine a_e 15 rfl (by decide +kernel) rfl (fun K hK => e_set tab rfl rfl rfl rfl (by first | ((repeat (first | exact Upd.head | apply Upd.tail)); done) | fail) (by first | ((repeat (first | exact LSet.zero | apply LSet.succ)); done) | fail) (hK _ _ (fun w h => h.subl (by first | ((repeat (first | exact SubL.nil | apply SubL.keep | apply SubL.skip)); done) | fail)) ?_)); clear hK)
    refine a_done (by decide +kernel) ?_
    (repeat (first | (refine i_dst ?_; (first | (refine i_move ?_; refine l_q rfl rfl rfl (q_move rfl) ?_) | (refine i_assign ?_; refine l_q rfl rfl rfl (q_assign rfl) ?_) | (refine i_bin ?_; refine l_q rfl rfl rfl (by (first | exact q_add rfl rfl (by (first | exact wr_i64 (by omega) | rfl)) | exact q_sub rfl rfl (by (exact wr_i64 (by omega))))) ?_))) | refine c_region ?_ | refine l_nil ?_ | (refine i_q ?_; (first | refine d_then ?_ | refine t_then ?_ | refine t_block ?_))))
    exact k_again 2 (by omega) (by omega) (by first | ((repeat (first | exact trivial | exact rfl | apply Sub.cons | exact look_int rfl (by omega) | exact look_int rfl (by simp) | exact look_int rfl (by simp; omega))); done) | fail) (fun w h => h)
  · (repeat (first | (refine i_dst ?_; (first | (refine i_move ?_; refine l_q rfl rfl rfl (q_move rfl) ?_) | (refine i_bin ?_; refine l_q rfl rfl rfl (by (exact q_lss rfl rfl)) ?_))) | refine d_seq ?_ | refine c_region ?_ | refine l_nil ?_ | (refine i_q ?_; (first | refine d_then ?_ | refine d_then_exit ?_ | refine t_then_exit ?_ | refine t_block_eq rfl ?_)) | refine c_exit ?_ | (refine i_cond ?_; (refine c_cf rfl (by (rfl)) ?_))))
    exact t_end0 Try.results63 rfl
theorem grow_spec {w : World} {m : Nat} (hm : 0 < m ∧ m ≤ 1000) : Calls Try.prog 82 #[.slice none 0 0, .int .i64 m] w (Ret w [] fun v B => ∃ b c, v = .slice (some ⟨b, 0, none⟩) 0 c ∧ B = [row 5 1 (.slice (some ⟨b, 0, none⟩) 0 c) 0 []]) := by
  refine enter (vs := [.slice none 0 0, .int .i64 m]) Try.func82 rfl Try.ntmps82 rfl (Hold.nil w) ?_
  have hmx : maxLen = 2 ^ 63 - 1 := rfl
  (repeat (first | (refine i_dst ?_; (first | (refine i_move ?_; refine l_q rfl rfl rfl (q_move rfl) ?_) | (refine i_assign ?_; refine l_q rfl rfl rfl (q_assign rfl) ?_) | (refine i_bin ?_; refine l_q rfl rfl rfl (by (exact q_lss rfl rfl)) ?_))) | refine d_seq ?_ | refine c_region ?_ | refine l_nil ?_ | (refine i_q ?_; (refine d_then ?_)) | refine c_skip ?_ | (refine i_cond ?_; (refine c_cf rfl (by (rfl)) ?_))))
  refine i_dst (l_q rfl rfl rfl (q_cap tab rfl rfl) ?_)
  (repeat (first | (refine i_dst ?_; (first | (refine i_move ?_; refine l_q rfl rfl rfl (q_move rfl) ?_) | (refine i_assign ?_; refine l_q rfl rfl rfl (q_assign rfl) ?_) | (refine i_bin ?_; refine l_q rfl rfl rfl (by (first | exact q_gtr rfl rfl | exact q_sub rfl rfl (by (exact wr_i64 (by omega))))) ?_) | (refine i_blt ?_; refine l_q rfl rfl rfl (by (exact q_len tab rfl rfl)) ?_))) | refine d_seq ?_ | refine c_region ?_ | refine l_nil ?_ | (refine i_q ?_; (refine d_then ?_)) | (refine i_cond ?_; (refine c_ct rfl (by (exact decide_eq_true (by omega))) ?_))))
  refine i_dst (l_q rfl rfl rfl (q_cap tab rfl rfl) ?_)
  (repeat ((refine i_dst ?_; (first | (refine i_move ?_; refine l_q rfl rfl rfl (q_move rfl) ?_) | (refine i_sl ?_; refine l_q rfl rfl rfl (by (exact q_slHi tab rfl rfl rfl rfl (by first | (with_reducible exact Int.toNat_natCast _) | (with_reducible exact Int.toNat_zero) | (with_reducible exact Int.toNat_one) | rfl) (by (omega)))) ?_)))))
  rw [show (m : Int) - (((0 : Nat) : Int) - ((0 : Nat) : Int)) = (m : Int) by omega]
  refine l_op rfl (fun K hK => e_appZ tab rfl rfl rfl ⟨rfl, rfl, rfl, by decide⟩ rfl rfl (by omega) (by omega) (by omega) (fun b c h1 h2 => hK _ _ ?_))
  clear hK
  (repeat (first | (refine i_dst ?_; (first | (refine i_move ?_; refine l_q rfl rfl rfl (q_move rfl) ?_) | (refine i_assign ?_; refine l_q rfl rfl rfl (q_assign rfl) ?_) | (refine i_blt ?_; refine l_q rfl rfl rfl (by (exact q_len tab rfl rfl)) ?_) | (refine i_sl ?_; refine l_q rfl rfl rfl (by (exact q_slHi tab rfl rfl rfl rfl (by first | (with_reducible exact Int.toNat_natCast _) | (with_reducible exact Int.toNat_zero) | (with_reducible exact Int.toNat_one) | rfl) (by (omega)))) ?_))) | refine d_seq ?_ | refine c_region ?_ | refine l_nil ?_ | (refine i_q ?_; (refine d_then ?_)) | refine c_ret ?_))
  exact t_hp (hp' := [row 5 1 (.slice (some ⟨b, 0, none⟩) 0 c) 0 []]) (fun w h => h.see (i := 0) rfl (fun h => row_cut0 (by omega) h) (fun b' hb => row_cut0S hb)) (t_ret1 Try.results82 rfl ⟨b, c, rfl, rfl⟩)
def cN (a b : Nat) (t : Nat) : Nat := match t with
  | 0 => 0
  | 1 => a
  | _ => a + b
theorem cN0 (a b : Nat) : cN a b 0 = 0 := rfl
theorem cN1 (a b : Nat) : cN a b 1 = a := rfl
theorem cN2 (a b : Nat) : cN a b 2 = a + b := rfl
def cL (a b : List Int) (t : Nat) : List Value := match t with
  | 0 => []
  | 1 => bv a
  | _ => bv (a ++ b)
theorem cL0 (a b : List Int) : cL a b 0 = [] := rfl
theorem cL1 (a b : List Int) : cL a b 1 = bv a := rfl
theorem cL2 (a b : List Int) : cL a b 2 = bv (a ++ b) := rfl
set_option maxHeartbeats 4000000 in
theorem concat_spec {w : World} {g : Nat} {A1 A2 : Option Addr} {n1 c1 n2 c2 : Nat} {l1 l2 : List Int} (hg : (blk g [.slice A1 n1 c1, .slice A2 n2 c2] 30).C w) (h1 : Ro (fps []) w (roB A1 n1 l1)) (h2 : Ro (fps []) w (roB A2 n2 l2)) (h0 : 0 < n1 ∧ n1 ≤ 100 ∧ n2 ≤ 100) :
    Calls Try.prog 64 #[.slice (some ⟨g, 0, none⟩) 2 2] w (Ret w [] fun v B => ∃ b c, v = .slice (some ⟨b, 0, none⟩) (n1 + n2) c ∧ n1 + n2 ≤ c ∧ c ≤ maxLen ∧ B = [row 5 1 (.slice (some ⟨b, 0, none⟩) (n1 + n2) c) (n1 + n2) (bv (l1 ++ l2))]) := by
  have hl1 := roB_len h1.is
  have hl2 := roB_len h2.is
  have hc0 : ∀ hp w', St (fps []) w hp w' → CellsAt w' g 0 [.slice A1 n1 c1, .slice A2 n2 c2] := fun hp w' h j u hu => by
    rw [Nat.zero_add]
    exact blk_cell (h.ro (Ro.empty hg)) hu
  have ha0 : ∀ hp w', St (fps []) w hp w' → w'.cell? ⟨g, 0, none⟩ = some (.slice A1 n1 c1) := fun hp w' h => hc0 hp w' h 0 _ rfl
  have ha1 : ∀ hp w', St (fps []) w hp w' → w'.cell? ⟨g, 1, none⟩ = some (.slice A2 n2 c2) := fun hp w' h => hc0 hp w' h 1 _ rfl
  refine enter (vs := [.slice (some ⟨g, 0, none⟩) 2 2]) Try.func64 rfl Try.ntmps64 rfl (Hold.nil w) ?_
  have hmx : maxLen = 2 ^ 63 - 1 := rfl
  (repeat (first | (refine i_dst ?_; (first | (refine i_move ?_; refine l_q rfl rfl rfl (q_move rfl) ?_) | (refine i_assign ?_; refine l_q rfl rfl rfl (q_assign rfl) ?_) | (refine i_blt ?_; refine l_q rfl rfl rfl (by (exact q_len tab rfl rfl)) ?_))) | refine d_seq ?_ | refine c_region ?_ | refine l_nil ?_ | refine c_block ?_ | (refine i_q ?_; (refine d_then ?_))))
  refine d_loop (T := Nat) [0, 9, 10] (fun t => [(11, .int .i64 (t : Nat)), (3, .int .i64 (cN n1 n2 t : Nat))]) [] (fun t => []) (fun t => t ≤ 2) (fun t => 2 - t) 0 (by first | ((repeat (first | exact Pick.nil | exact rfl | apply Pick.cons)); done) | fail) (by omega) (by first | ((repeat (first | exact trivial | exact rfl | apply Sub.cons | exact look_int rfl (by omega) | exact look_int rfl (by simp) | exact look_int rfl (by simp; omega))); done) | fail) (fun w h => h) ?_
  intro t ht
  rcases (by omega : t = 0 ∨ t = 1 ∨ t = 2) with rfl | rfl | rfl
  · simp only [cN0, cN1, cN2]
    (repeat (first | (refine i_dst ?_; (first | (refine i_move ?_; refine l_q rfl rfl rfl (q_move rfl) ?_) | (refine i_assign ?_; refine l_q rfl rfl rfl (q_assign rfl) ?_) | (refine i_load ?_; refine l_q rfl rfl rfl (by (exact q_ldc tab rfl rfl rfl (by assumption))) ?_) | (refine i_bin ?_; refine l_q rfl rfl rfl (by (first | exact q_lss rfl rfl | exact q_add rfl rfl (by (exact wr_i64 (by omega))))) ?_) | (refine i_blt ?_; refine l_q rfl rfl rfl (by (exact q_len tab rfl rfl)) ?_) | (refine i_ix ?_; refine l_q rfl rfl rfl (by (exact q_indexAddr1 tab rfl rfl rfl rfl (by omega))) ?_))) | refine d_seq ?_ | refine c_region ?_ | refine l_nil ?_ | refine c_block ?_ | (refine i_q ?_; (first | refine d_then ?_ | refine t_then ?_ | refine t_block ?_)) | refine c_skip ?_ | (refine i_cond ?_; (first | refine c_ct rfl (by (rfl)) ?_ | refine c_cf rfl (by (rfl)) ?_))))
    exact k_again 1 (by omega) (by omega) (by simp only [cN0, cN1, cN2]; exact (by first | ((repeat (first | exact trivial | exact rfl | apply Sub.cons | exact look_int rfl (by omega) | exact look_int rfl (by simp) | exact look_int rfl (by simp; omega))); done) | fail)) (fun w h => h)
  · simp only [cN0, cN1, cN2]
    (repeat (first | (refine i_dst ?_; (first | (refine i_move ?_; refine l_q rfl rfl rfl (q_move rfl) ?_) | (refine i_assign ?_; refine l_q rfl rfl rfl (q_assign rfl) ?_) | (refine i_load ?_; refine l_q rfl rfl rfl (by (exact q_ldc tab rfl rfl rfl (by assumption))) ?_) | (refine i_bin ?_; refine l_q rfl rfl rfl (by (first | exact q_lss rfl rfl | exact q_add rfl rfl (by (exact wr_i64 (by omega))))) ?_) | (refine i_blt ?_; refine l_q rfl rfl rfl (by (exact q_len tab rfl rfl)) ?_) | (refine i_ix ?_; refine l_q rfl rfl rfl (by (exact q_indexAddr1 tab rfl rfl rfl rfl (by omega))) ?_))) | refine d_seq ?_ | refine c_region ?_ | refine l_nil ?_ | refine c_block ?_ | (refine i_q ?_; (first | refine d_then ?_ | refine t_then ?_ | refine t_block ?_)) | refine c_skip ?_ | (refine i_cond ?_; (first | refine c_ct rfl (by (rfl)) ?_ | refine c_cf rfl (by (rfl)) ?_))))
    exact k_again 2 (by omega) (by omega) (by simp only [cN0, cN1, cN2]; exact (by first | ((repeat (first | exact trivial | exact rfl | apply Sub.cons | exact look_int rfl (by omega) | exact look_int rfl (by simp) | exact look_int rfl (by simp; omega))); done) | fail)) (fun w h => h)
  · simp only [cN0, cN1, cN2]
    (repeat (first | (refine i_dst ?_; (first | (refine i_move ?_; refine l_q rfl rfl rfl (q_move rfl) ?_) | (refine i_bin ?_; refine l_q rfl rfl rfl (by (exact q_lss rfl rfl)) ?_))) | refine d_seq ?_ | refine c_region ?_ | refine l_nil ?_ | (refine i_q ?_; (first | refine d_then ?_ | refine d_then_exit ?_ | refine t_then_exit ?_ | refine t_block_eq rfl ?_)) | refine c_exit ?_ | (refine i_cond ?_; (refine c_cf rfl (by (rfl)) ?_))))
    (refine l_call0 rfl rfl Try.func82 rfl (by decide) (fun w' h => grow_spec ⟨by omega, by omega⟩) (fun v B hv => ?_); obtain ⟨b, c, rfl, rfl⟩ := hv)
    (repeat (first | (refine i_dst ?_; (first | (refine i_move ?_; refine l_q rfl rfl rfl (q_move rfl) ?_) | (refine i_assign ?_; refine l_q rfl rfl rfl (q_assign rfl) ?_) | (refine i_blt ?_; refine l_q rfl rfl rfl (by (exact q_len tab rfl rfl)) ?_))) | refine d_seq ?_ | refine c_region ?_ | refine l_nil ?_ | refine c_block ?_ | (refine i_q ?_; (refine d_then ?_))))
    refine d_loop (T := Nat × Option Addr × Nat) [25, 26] (fun t => [(27, .int .i64 (t.1 : Nat)), (6, .slice t.2.1 (cN n1 n2 t.1) t.2.2)]) [] (fun t => [row 5 1 (.slice t.2.1 (cN n1 n2 t.1) t.2.2) (cN n1 n2 t.1) (cL l1 l2 t.1)]) (fun t => t.1 ≤ 2) (fun t => 2 - t.1) (0, some ⟨b, 0, none⟩, c) (by first | ((repeat (first | exact Pick.nil | exact rfl | apply Pick.cons)); done) | fail) (by dsimp only; omega) (by first | ((repeat (first | exact trivial | exact rfl | apply Sub.cons | exact look_int rfl (by omega) | exact look_int rfl (by simp) | exact look_int rfl (by simp; omega))); done) | fail) (fun w h => h) ?_
    rintro ⟨t, At, ct⟩ ht
    dsimp only at ht ⊢
    rcases (by omega : t = 0 ∨ t = 1 ∨ t = 2) with rfl | rfl | rfl
    · simp only [cN0, cN1, cN2, cL0, cL1, cL2]
      (repeat (first | (refine i_dst ?_; (first | (refine i_move ?_; refine l_q rfl rfl rfl (q_move rfl) ?_) | (refine i_assign ?_; refine l_q rfl rfl rfl (q_assign rfl) ?_) | (refine i_load ?_; refine l_q rfl rfl rfl (by (exact q_ldc tab rfl rfl rfl (by assumption))) ?_) | (refine i_bin ?_; refine l_q rfl rfl rfl (by (exact q_lss rfl rfl)) ?_) | (refine i_ix ?_; refine l_q rfl rfl rfl (by (exact q_indexAddr1 tab rfl rfl rfl rfl (by omega))) ?_))) | refine d_seq ?_ | refine c_region ?_ | refine l_nil ?_ | refine c_block ?_ | (refine i_q ?_; (refine d_then ?_)) | refine c_skip ?_ | (refine i_cond ?_; (refine c_ct rfl (by (rfl)) ?_))))
      (refine l_app tab rfl rfl rfl rowB (by first | ((repeat (first | exact Ext.head | apply Ext.tail)); done) | fail) (news := bv l1) (fun w h => by rw [Nat.mul_one]; exact roB_src (h.ro h1)) (bv_one _) (by omega) (by omega) (fun A6 c6 hA1 hA2 => ?_))
      rw [Nat.zero_add, List.nil_append]
      (repeat (first | (refine i_dst ?_; (first | (refine i_move ?_; refine l_q rfl rfl rfl (q_move rfl) ?_) | (refine i_assign ?_; refine l_q rfl rfl rfl (q_assign rfl) ?_) | (refine i_bin ?_; refine l_q rfl rfl rfl (by (exact q_add rfl rfl (by (exact wr_i64 (by omega))))) ?_))) | refine c_region ?_ | refine l_nil ?_ | (refine i_q ?_; (first | refine d_then ?_ | refine t_then ?_ | refine t_block ?_))))
      exact k_again (1, A6, c6) (by dsimp only; omega) (by dsimp only; omega) (by simp only [cN0, cN1, cN2]; exact (by first | ((repeat (first | exact trivial | exact rfl | apply Sub.cons | exact look_int rfl (by omega) | exact look_int rfl (by simp) | exact look_int rfl (by simp; omega))); done) | fail)) (fun w h => h)
    · simp only [cN0, cN1, cN2, cL0, cL1, cL2]
      (repeat (first | (refine i_dst ?_; (first | (refine i_move ?_; refine l_q rfl rfl rfl (q_move rfl) ?_) | (refine i_assign ?_; refine l_q rfl rfl rfl (q_assign rfl) ?_) | (refine i_load ?_; refine l_q rfl rfl rfl (by (exact q_ldc tab rfl rfl rfl (by assumption))) ?_) | (refine i_bin ?_; refine l_q rfl rfl rfl (by (exact q_lss rfl rfl)) ?_) | (refine i_ix ?_; refine l_q rfl rfl rfl (by (exact q_indexAddr1 tab rfl rfl rfl rfl (by omega))) ?_))) | refine d_seq ?_ | refine c_region ?_ | refine l_nil ?_ | refine c_block ?_ | (refine i_q ?_; (refine d_then ?_)) | refine c_skip ?_ | (refine i_cond ?_; (refine c_ct rfl (by (rfl)) ?_))))
      (refine l_app tab rfl rfl rfl rowB (by first | ((repeat (first | exact Ext.head | apply Ext.tail)); done) | fail) (news := bv l2) (fun w h => by rw [Nat.mul_one]; exact roB_src (h.ro h2)) (bv_one _) (by omega) (by omega) (fun A6 c6 hA1 hA2 => ?_))
      rw [← bv_append]
      (repeat (first | (refine i_dst ?_; (first | (refine i_move ?_; refine l_q rfl rfl rfl (q_move rfl) ?_) | (refine i_assign ?_; refine l_q rfl rfl rfl (q_assign rfl) ?_) | (refine i_bin ?_; refine l_q rfl rfl rfl (by (exact q_add rfl rfl (by (exact wr_i64 (by omega))))) ?_))) | refine c_region ?_ | refine l_nil ?_ | (refine i_q ?_; (first | refine d_then ?_ | refine t_then ?_ | refine t_block ?_))))
      exact k_again (2, A6, c6) (by dsimp only; omega) (by dsimp only; omega) (by simp only [cN0, cN1, cN2]; exact (by first | ((repeat (first | exact trivial | exact rfl | apply Sub.cons | exact look_int rfl (by omega) | exact look_int rfl (by simp) | exact look_int rfl (by simp; omega))); done) | fail)) (fun w h => h)
    · simp only [cN0, cN1, cN2, cL0, cL1, cL2]
      refine c_fact (p := ∃ b', At = some ⟨b', 0, none⟩ ∧ n1 + n2 ≤ ct ∧ ct ≤ maxLen) (fun w h => ?_) ?_
      · obtain ⟨g', cap, junk, e1, q1, q2, -⟩ := row_blk (h.get (i := 0) rfl) (by omega)
        injection e1 with e1 _ e3
        exact ⟨g', e1, by omega, by omega⟩
      rintro ⟨b', rfl, q1, q2⟩
      (repeat (first | (refine i_dst ?_; (first | (refine i_move ?_; refine l_q rfl rfl rfl (q_move rfl) ?_) | (refine i_assign ?_; refine l_q rfl rfl rfl (q_assign rfl) ?_) | (refine i_bin ?_; refine l_q rfl rfl rfl (by (exact q_lss rfl rfl)) ?_))) | refine d_seq ?_ | refine c_region ?_ | refine l_nil ?_ | (refine i_q ?_; (first | refine d_then ?_ | refine d_then_exit ?_ | refine t_then_exit ?_ | refine t_block_eq rfl ?_)) | refine c_exit ?_ | refine c_ret ?_ | (refine i_cond ?_; (refine c_cf rfl (by (rfl)) ?_))))
      exact t_hp (hp' := [row 5 1 (.slice (some ⟨b', 0, none⟩) (n1 + n2) ct) (n1 + n2) (bv (l1 ++ l2))]) (fun w h => h.psub (by first | ((repeat (first | exact PSub.nil | exact Ext.head | apply Ext.tail | apply PSub.cons)); done) | fail)) (t_ret1 Try.results64 rfl ⟨b', ct, rfl, q1, q2, rfl⟩)
theorem width4_spec (w : World) : Calls Try.prog 62 #[.int .i64 4] w (Ret w [] fun v B => v = .bool true ∧ B = []) := by
  refine enter (vs := [.int .i64 4]) Try.func62 rfl Try.ntmps62 rfl (Hold.nil w) ?_
  (repeat (first | (refine i_dst ?_; (first | (refine i_move ?_; refine l_q rfl rfl rfl (q_move rfl) ?_) | (refine i_assign ?_; refine l_q rfl rfl rfl (q_assign rfl) ?_) | (refine i_bin ?_; refine l_q rfl rfl rfl (by (first | exact q_eql rfl rfl | exact q_geq rfl rfl | exact q_leq rfl rfl | exact q_sub rfl rfl (by (first | exact wr_i64 (by omega) | rfl)) | exact q_bits rfl rfl rfl (fun w => rfl))) ?_) | refine l_q rfl rfl rfl (by (exact q_pick_t rfl rfl)) ?_)) | refine d_seq ?_ | refine c_region ?_ | refine l_nil ?_ | (refine i_q ?_; (refine d_then ?_)) | refine c_ret ?_ | (refine i_guard ?_; (refine l_gt rfl rfl rfl ?_))))
  exact t_ret1 Try.results62 rfl ⟨rfl, rfl⟩
end Go.Proofs.Ytidekbijkknlmaa

/-
  Part 20 of the proof of QJ: the texts B1 B2 C3.
-/
import Derived.Test.YtboccjdncdaakaaK09
import Derived.Test.YtboccjdncdaakaaK07
import Derived.Test.YtboccjdncdaakaaK06
import Derived.Test.YtboccjdncdaakaaK10
import Derived.Test.YtboccjdncdaakaaK11
import Derived.Laws.BitsLemmas
import Derived.Test.YtboccjdncdaakaaK19

/-
  Reverse (of four bytes), Grow (of nil), Concat (of two); num.width, walked.
-/

set_option linter.unusedVariables false
set_option maxRecDepth 100000
namespace Go.Proofs.Ytboccjdncdaakaa
open Go.RowKit
attribute [local irreducible] TL TC TQ TK TO Qt TA
theorem row_cut0 {e : TypeId} {size b m c : Nat} {xs : List Value} {w : World} (hm : 0 < m) (h : (row e size (.slice (some ⟨b, 0, none⟩) m c) m xs).C w) : (row e size (.slice (some ⟨b, 0, none⟩) 0 c) 0 []).C w := by
  obtain ⟨g, cap, junk, e1, h1, h2, h3, h4⟩ := row_blk h hm
  injection e1 with e1 _ e3
  injection e1 with e1
  injection e1 with e1
  subst e1 e3
  exact row_of_blk h4 size 0 c (Nat.zero_le _) h2 h3 [] (by simp)
theorem row_cut0S {e : TypeId} {size b b' m c : Nat} {xs : List Value} (h : (row e size (.slice (some ⟨b, 0, none⟩) 0 c) 0 []).S b') : (row e size (.slice (some ⟨b, 0, none⟩) m c) m xs).S b' := h
def revC (a b c d : Int) (t : Nat) : List Value := match t with
  | 0 => [.int .u8 a, .int .u8 b, .int .u8 c, .int .u8 d]
  | 1 => [.int .u8 d, .int .u8 b, .int .u8 c, .int .u8 a]
  | _ => [.int .u8 d, .int .u8 c, .int .u8 b, .int .u8 a]
attribute [local irreducible] blk row bytesA starL memA segA roB
set_option maxHeartbeats 4000000 in
theorem rev4_spec {w : World} {g cp : Nat} {a b c d : Int} {junk : List Value} (hA : Hold [blk g (.int .u8 a :: .int .u8 b :: .int .u8 c :: .int .u8 d :: junk) 5] w) (hc : 4 ≤ cp ∧ cp ≤ maxLen) :
    Calls Try.prog 57 #[.slice (some ⟨g, 0, none⟩) 4 cp] w (Ret w [blk g (.int .u8 a :: .int .u8 b :: .int .u8 c :: .int .u8 d :: junk) 5] fun v B => B = [blk g (.int .u8 d :: .int .u8 c :: .int .u8 b :: .int .u8 a :: junk) 5]) := by
  refine enter (vs := [.slice (some ⟨g, 0, none⟩) 4 cp]) Try.func57 rfl Try.ntmps57 rfl hA ?_
  (repeat (first | (refine i_dst ?_; (first | (refine i_move ?_; refine l_q rfl rfl rfl (q_move rfl) ?_) | (refine i_assign ?_; refine l_q rfl rfl rfl (q_assign rfl) ?_) | (refine i_bin ?_; refine l_q rfl rfl rfl (by (exact q_sub rfl rfl (by (exact wr_i64 (by omega))))) ?_) | (refine i_blt ?_; refine l_q rfl rfl rfl (by (exact q_len tab rfl rfl)) ?_))) | refine d_seq ?_ | refine c_region ?_ | refine l_nil ?_ | refine c_block ?_ | (refine i_q ?_; (refine d_then ?_))))
  refine d_loop (T := Nat) [0] (fun t => [(2, .int .i64 (t : Nat)), (3, .int .i64 (3 - (t : Nat)))]) [] (fun t => [blk g (revC a b c d t ++ junk) 5]) (fun t => t ≤ 2) (fun t => 2 - t) 0 (by first | ((repeat (first | exact Pick.nil | exact rfl | apply Pick.cons)); done) | fail) (by omega) (by first | ((repeat (first | exact trivial | exact rfl | apply Sub.cons | exact look_int rfl (by omega) | exact look_int rfl (by simp) | exact look_int rfl (by simp; omega))); done) | fail) (fun w h => h) ?_
  intro t ht
  rcases (by omega : t = 0 ∨ t = 1 ∨ t = 2) with rfl | rfl | rfl
  · dsimp only [revC, List.cons_append, List.nil_append]
    (repeat (first | (refine i_dst ?_; (first | (refine i_move ?_; refine l_q rfl rfl rfl (q_move rfl) ?_) | (refine i_bin ?_; refine l_q rfl rfl rfl (by (exact q_lss rfl rfl)) ?_))) | refine d_seq ?_ | refine c_region ?_ | refine l_nil ?_ | refine c_block ?_ | (refine i_q ?_; (refine d_then ?_)) | refine c_skip ?_ | (refine i_cond ?_; (refine c_ct rfl (by (rfl)) ?_))))
    (refine a_beginE mixed [blk g (.int .u8 a :: .int .u8 b :: .int .u8 c :: .int .u8 d :: junk) 5] [] 16 13 rfl (fun w h => h.subl (by first | ((repeat (first | exact SubL.nil | apply SubL.keep | apply SubL.skip)); done) | fail)) (fun w h => h.subl (by first | ((repeat (first | exact SubL.nil | apply SubL.keep | apply SubL.skip)); done) | fail)) ?_)
    ((refine a_q 0 rfl rfl rfl rfl rfl (by decide +kernel) (q_move rfl) ?_; refine a_q 1 rfl rfl rfl rfl rfl (by decide +kernel) (q_move rfl) ?_; refine a_q 2 rfl rfl rfl rfl rfl (by decide +kernel) (q_move rfl) ?_; refine a_q 3 rfl rfl rfl rfl rfl (by decide +kernel) (q_move rfl) ?_; refine a_q 4 rfl rfl rfl rfl rfl (by decide +kernel) (q_move rfl) ?_; refine a_q 5 rfl rfl rfl rfl rfl (by decide +kernel) (q_move rfl) ?_; refine a_q 6 rfl rfl rfl rfl rfl (by decide +kernel) (by (exact q_indexAddr1 tab rfl rfl rfl rfl (by omega))) ?_; ((refine a_y 7 rfl rfl rfl rfl rfl (by decide +kernel) (by ((exact q_ld1 tab rfl rfl rfl (by first | ((repeat (first | exact List.Mem.head _ | apply List.Mem.tail)); done) | fail) (by (rfl))))) ?_)); refine a_q 8 rfl rfl rfl rfl rfl (by decide +kernel) (q_move rfl) ?_; refine a_q 9 rfl rfl rfl rfl rfl (by decide +kernel) (q_move rfl) ?_; refine a_q 10 rfl rfl rfl rfl rfl (by decide +kernel) (by (exact q_indexAddr1 tab rfl rfl rfl rfl (by omega))) ?_; ((refine a_y 11 rfl rfl rfl rfl rfl (by decide +kernel) (by ((exact q_ld1 tab rfl rfl rfl (by first | ((repeat (first | exact List.Mem.head _ | apply List.Mem.tail)); done) | fail) (by (rfl))))) ?_)); refine a_q 12 rfl rfl rfl rfl rfl (by decide +kernel) (by (exact q_indexAddr1 tab rfl rfl rfl rfl (by omega))) ?_))
    (refine a_e 13 rfl (by decide +kernel) rfl (fun K hK => e_set tab rfl rfl rfl rfl (by first | ((repeat (first | exact Upd.head | apply Upd.tail)); done) | fail) (by first | ((repeat (first | exact LSet.zero | apply LSet.succ)); done) | fail) (hK _ _ (fun w h => h.subl (by first | ((repeat (first | exact SubL.nil | apply SubL.keep | apply SubL.skip)); done) | fail)) ?_)); clear hK)
    ((refine a_q 14 rfl rfl rfl rfl rfl (by decide +kernel) (by (exact q_indexAddr1 tab rfl rfl rfl rfl (by omega))) ?_))
    (refine a_e 15 rfl (by decide +kernel) rfl (fun K hK => e_set tab rfl rfl rfl rfl (by first | ((repeat (first | exact Upd.head | apply Upd.tail)); done) | fail) (by first | ((repeat (first | exact LSet.zero | apply LSet.succ)); done) | fail) (hK _ _ (fun w h => h.subl (by first | ((repeat (first | exact SubL.nil | apply SubL.keep | apply SubL.skip)); done) | fail)) ?_)); clear hK)
    refine a_done (by decide +kernel) ?_
    (repeat (first | (refine i_dst ?_; (first | (refine i_move ?_; refine l_q rfl rfl rfl (q_move rfl) ?_) | (refine i_assign ?_; refine l_q rfl rfl rfl (q_assign rfl) ?_) | (refine i_bin ?_; refine l_q rfl rfl rfl (by (first | exact q_add rfl rfl (by (first | exact wr_i64 (by omega) | rfl)) | exact q_sub rfl rfl (by (exact wr_i64 (by omega))))) ?_))) | refine c_region ?_ | refine l_nil ?_ | (refine i_q ?_; (first | refine d_then ?_ | refine t_then ?_ | refine t_block ?_))))
    exact k_again 1 (by omega) (by omega) (by first | ((repeat (first | exact trivial | exact rfl | apply Sub.cons | exact look_int rfl (by omega) | exact look_int rfl (by simp) | exact look_int rfl (by simp; omega))); done) | fail) (fun w h => h)
  · dsimp only [revC, List.cons_append, List.nil_append]
    (repeat (first | (refine i_dst ?_; (first | (refine i_move ?_; refine l_q rfl rfl rfl (q_move rfl) ?_) | (refine i_bin ?_; refine l_q rfl rfl rfl (by (exact q_lss rfl rfl)) ?_))) | refine d_seq ?_ | refine c_region ?_ | refine l_nil ?_ | refine c_block ?_ | (refine i_q ?_; (refine d_then ?_)) | refine c_skip ?_ | (refine i_cond ?_; (refine c_ct rfl (by (rfl)) ?_))))
    (refine a_beginE mixed [blk g (.int .u8 d :: .int .u8 b :: .int .u8 c :: .int .u8 a :: junk) 5] [] 16 13 rfl (fun w h => h.subl (by first | ((repeat (first | exact SubL.nil | apply SubL.keep | apply SubL.skip)); done) | fail)) (fun w h => h.subl (by first | ((repeat (first | exact SubL.nil | apply SubL.keep | apply SubL.skip)); done) | fail)) ?_)
    ((refine a_q 0 rfl rfl rfl rfl rfl (by decide +kernel) (q_move rfl) ?_; refine a_q 1 rfl rfl rfl rfl rfl (by decide +kernel) (q_move rfl) ?_; refine a_q 2 rfl rfl rfl rfl rfl (by decide +kernel) (q_move rfl) ?_; refine a_q 3 rfl rfl rfl rfl rfl (by decide +kernel) (q_move rfl) ?_; refine a_q 4 rfl rfl rfl rfl rfl (by decide +kernel) (q_move rfl) ?_; refine a_q 5 rfl rfl rfl rfl rfl (by decide +kernel) (q_move rfl) ?_; refine a_q 6 rfl rfl rfl rfl rfl (by decide +kernel) (by (exact q_indexAddr1 tab rfl rfl rfl rfl (by omega))) ?_; ((refine a_y 7 rfl rfl rfl rfl rfl (by decide +kernel) (by ((exact q_ld1 tab rfl rfl rfl (by first | ((repeat (first | exact List.Mem.head _ | apply List.Mem.tail)); done) | fail) (by (rfl))))) ?_)); refine a_q 8 rfl rfl rfl rfl rfl (by decide +kernel) (q_move rfl) ?_; refine a_q 9 rfl rfl rfl rfl rfl (by decide +kernel) (q_move rfl) ?_; refine a_q 10 rfl rfl rfl rfl rfl (by decide +kernel) (by (exact q_indexAddr1 tab rfl rfl rfl rfl (by omega))) ?_; ((refine a_y 11 rfl rfl rfl rfl rfl (by decide +kernel) (by ((exact q_ld1 tab rfl rfl rfl (by first | ((repeat (first | exact List.Mem.head _ | apply List.Mem.tail)); done) | fail) (by (rfl))))) ?_)); refine a_q 12 rfl rfl rfl rfl rfl (by decide +kernel) (by (exact q_indexAddr1 tab rfl rfl rfl rfl (by omega))) ?_))
    (refine a_e 13 rfl (by decide +kernel) rfl (fun K hK => e_set tab rfl rfl rfl rfl (by first | ((repeat (first | exact Upd.head | apply Upd.tail)); done) | fail) (by first | ((repeat (first | exact LSet.zero | apply LSet.succ)); done) | fail) (hK _ _ (fun w h => h.subl (by first | ((repeat (first | exact SubL.nil | apply SubL.keep | apply SubL.skip)); done) | fail)) ?_)); clear hK)
    ((refine a_q 14 rfl rfl rfl rfl rfl (by decide +kernel) (by (exact q_indexAddr1 tab rfl rfl rfl rfl (by omega))) ?_))
    (refine a_e 15 rfl (by decide +kernel) rfl (fun K hK => e_set tab rfl rfl rfl rfl (by first | ((repeat (first | exact Upd.head | apply Upd.tail)); done) | fail) (by first | ((repeat (first | exact LSet.zero | apply LSet.succ)); done) | fail) (hK _ _ (fun w h => h.subl (by first | ((repeat (first | exact SubL.nil | apply SubL.keep | apply SubL.skip)); done) | fail)) ?_)); clear hK)
    refine a_done (by decide +kernel) ?_
    (repeat (first | (refine i_dst ?_; (first | (refine i_move ?_; refine l_q rfl rfl rfl (q_move rfl) ?_) | (refine i_assign ?_; refine l_q rfl rfl rfl (q_assign rfl) ?_) | (refine i_bin ?_; refine l_q rfl rfl rfl (by (first | exact q_add rfl rfl (by (first | exact wr_i64 (by omega) | rfl)) | exact q_sub rfl rfl (by (exact wr_i64 (by omega))))) ?_))) | refine c_region ?_ | refine l_nil ?_ | (refine i_q ?_; (first | refine d_then ?_ | refine t_then ?_ | refine t_block ?_))))
    exact k_again 2 (by omega) (by omega) (by first | ((repeat (first | exact trivial | exact rfl | apply Sub.cons | exact look_int rfl (by omega) | exact look_int rfl (by simp) | exact look_int rfl (by simp; omega))); done) | fail) (fun w h => h)
  · (repeat (first | (refine i_dst ?_; (first | (refine i_move ?_; refine l_q rfl rfl rfl (q_move rfl) ?_) | (refine i_bin ?_; refine l_q rfl rfl rfl (by (exact q_lss rfl rfl)) ?_))) | refine d_seq ?_ | refine c_region ?_ | refine l_nil ?_ | (refine i_q ?_; (first | refine d_then ?_ | refine d_then_exit ?_ | refine t_then_exit ?_ | refine t_block_eq rfl ?_)) | refine c_exit ?_ | (refine i_cond ?_; (refine c_cf rfl (by (rfl)) ?_))))
    exact t_end0 Try.results57 rfl
theorem grow_spec {w : World} {m : Nat} (hm : 0 < m ∧ m ≤ 1000) : Calls Try.prog 64 #[.slice none 0 0, .int .i64 m] w (Ret w [] fun v B => ∃ b c, v = .slice (some ⟨b, 0, none⟩) 0 c ∧ B = [row 5 1 (.slice (some ⟨b, 0, none⟩) 0 c) 0 []]) := by
  refine enter (vs := [.slice none 0 0, .int .i64 m]) Try.func64 rfl Try.ntmps64 rfl (Hold.nil w) ?_
  have hmx : maxLen = 2 ^ 63 - 1 := rfl
  (repeat (first | (refine i_dst ?_; (first | (refine i_move ?_; refine l_q rfl rfl rfl (q_move rfl) ?_) | (refine i_assign ?_; refine l_q rfl rfl rfl (q_assign rfl) ?_) | (refine i_bin ?_; refine l_q rfl rfl rfl (by (exact q_lss rfl rfl)) ?_))) | refine d_seq ?_ | refine c_region ?_ | refine l_nil ?_ | (refine i_q ?_; (refine d_then ?_)) | refine c_skip ?_ | (refine i_cond ?_; (refine c_cf rfl (by (rfl)) ?_))))
  refine i_dst (l_q rfl rfl rfl (q_cap tab rfl rfl) ?_)
  (repeat (first | (refine i_dst ?_; (first | (refine i_move ?_; refine l_q rfl rfl rfl (q_move rfl) ?_) | (refine i_assign ?_; refine l_q rfl rfl rfl (q_assign rfl) ?_) | (refine i_bin ?_; refine l_q rfl rfl rfl (by (first | exact q_gtr rfl rfl | exact q_sub rfl rfl (by (exact wr_i64 (by omega))))) ?_) | (refine i_blt ?_; refine l_q rfl rfl rfl (by (exact q_len tab rfl rfl)) ?_))) | refine d_seq ?_ | refine c_region ?_ | refine l_nil ?_ | (refine i_q ?_; (refine d_then ?_)) | (refine i_cond ?_; (refine c_ct rfl (by (exact decide_eq_true (by omega))) ?_))))
  refine i_dst (l_q rfl rfl rfl (q_cap tab rfl rfl) ?_)
  (repeat ((refine i_dst ?_; (first | (refine i_move ?_; refine l_q rfl rfl rfl (q_move rfl) ?_) | (refine i_sl ?_; refine l_q rfl rfl rfl (by (exact q_slHi tab rfl rfl rfl rfl (by first | (with_reducible exact Int.toNat_natCast _) | (with_reducible exact Int.toNat_zero) | (with_reducible exact Int.toNat_one) | rfl) (by (omega)))) ?_)))))
  rw [show (m : Int) - (((0 : Nat) : Int) - ((0 : Nat) : Int)) = (m : Int) by omega]
  refine l_op rfl (fun K hK => e_appZ tab rfl rfl rfl ⟨rfl, rfl, rfl, by decide⟩ rfl rfl (by omega) (by omega) (by omega) (fun b c h1 h2 => hK _ _ ?_))
  clear hK
  (repeat (first | (refine i_dst ?_; (first | (refine i_move ?_; refine l_q rfl rfl rfl (q_move rfl) ?_) | (refine i_assign ?_; refine l_q rfl rfl rfl (q_assign rfl) ?_) | (refine i_blt ?_; refine l_q rfl rfl rfl (by (exact q_len tab rfl rfl)) ?_) | (refine i_sl ?_; refine l_q rfl rfl rfl (by (exact q_slHi tab rfl rfl rfl rfl (by first | (with_reducible exact Int.toNat_natCast _) | (with_reducible exact Int.toNat_zero) | (with_reducible exact Int.toNat_one) | rfl) (by (omega)))) ?_))) | refine d_seq ?_ | refine c_region ?_ | refine l_nil ?_ | (refine i_q ?_; (refine d_then ?_)) | refine c_ret ?_))
  exact t_hp (hp' := [row 5 1 (.slice (some ⟨b, 0, none⟩) 0 c) 0 []]) (fun w h => h.see (i := 0) rfl (fun h => row_cut0 (by omega) h) (fun b' hb => row_cut0S hb)) (t_ret1 Try.results64 rfl ⟨b, c, rfl, rfl⟩)
def cN (a b : Nat) (t : Nat) : Nat := match t with
  | 0 => 0
  | 1 => a
  | _ => a + b
theorem cN0 (a b : Nat) : cN a b 0 = 0 := rfl
theorem cN1 (a b : Nat) : cN a b 1 = a := rfl
theorem cN2 (a b : Nat) : cN a b 2 = a + b := rfl
def cL (a b : List Int) (t : Nat) : List Value := match t with
  | 0 => []
  | 1 => bv a
  | _ => bv (a ++ b)
theorem cL0 (a b : List Int) : cL a b 0 = [] := rfl
theorem cL1 (a b : List Int) : cL a b 1 = bv a := rfl
theorem cL2 (a b : List Int) : cL a b 2 = bv (a ++ b) := rfl
set_option maxHeartbeats 4000000 in
theorem concat_spec {w : World} {g : Nat} {A1 A2 : Option Addr} {n1 c1 n2 c2 : Nat} {l1 l2 : List Int} (hg : (blk g [.slice A1 n1 c1, .slice A2 n2 c2] 38).C w) (h1 : Ro (fps []) w (roB A1 n1 l1)) (h2 : Ro (fps []) w (roB A2 n2 l2)) (h0 : 0 < n1 ∧ n1 ≤ 100 ∧ n2 ≤ 100) :
    Calls Try.prog 58 #[.slice (some ⟨g, 0, none⟩) 2 2] w (Ret w [] fun v B => ∃ b c, v = .slice (some ⟨b, 0, none⟩) (n1 + n2) c ∧ n1 + n2 ≤ c ∧ c ≤ maxLen ∧ B = [row 5 1 (.slice (some ⟨b, 0, none⟩) (n1 + n2) c) (n1 + n2) (bv (l1 ++ l2))]) := by
  have hl1 := roB_len h1.is
  have hl2 := roB_len h2.is
  have hc0 : ∀ hp w', St (fps []) w hp w' → CellsAt w' g 0 [.slice A1 n1 c1, .slice A2 n2 c2] := fun hp w' h j u hu => by
    rw [Nat.zero_add]
    exact blk_cell (h.ro (Ro.empty hg)) hu
  have ha0 : ∀ hp w', St (fps []) w hp w' → w'.cell? ⟨g, 0, none⟩ = some (.slice A1 n1 c1) := fun hp w' h => hc0 hp w' h 0 _ rfl
  have ha1 : ∀ hp w', St (fps []) w hp w' → w'.cell? ⟨g, 1, none⟩ = some (.slice A2 n2 c2) := fun hp w' h => hc0 hp w' h 1 _ rfl
  refine enter (vs := [.slice (some ⟨g, 0, none⟩) 2 2]) Try.func58 rfl Try.ntmps58 rfl (Hold.nil w) ?_
  have hmx : maxLen = 2 ^ 63 - 1 := rfl
  (repeat (first | (refine i_dst ?_; (first | (refine i_move ?_; refine l_q rfl rfl rfl (q_move rfl) ?_) | (refine i_assign ?_; refine l_q rfl rfl rfl (q_assign rfl) ?_) | (refine i_blt ?_; refine l_q rfl rfl rfl (by (exact q_len tab rfl rfl)) ?_))) | refine d_seq ?_ | refine c_region ?_ | refine l_nil ?_ | refine c_block ?_ | (refine i_q ?_; (refine d_then ?_))))
  refine d_loop (T := Nat) [0, 9, 10] (fun t => [(11, .int .i64 (t : Nat)), (3, .int .i64 (cN n1 n2 t : Nat))]) [] (fun t => []) (fun t => t ≤ 2) (fun t => 2 - t) 0 (by first | ((repeat (first | exact Pick.nil | exact rfl | apply Pick.cons)); done) | fail) (by omega) (by first | ((repeat (first | exact trivial | exact rfl | apply Sub.cons | exact look_int rfl (by omega) | exact look_int rfl (by simp) | exact look_int rfl (by simp; omega))); done) | fail) (fun w h => h) ?_
  intro t ht
  rcases (by omega : t = 0 ∨ t = 1 ∨ t = 2) with rfl | rfl | rfl
  · simp only [cN0, cN1, cN2]
    (repeat (first | (refine i_dst ?_; (first | (refine i_move ?_; refine l_q rfl rfl rfl (q_move rfl) ?_) | (refine i_assign ?_; refine l_q rfl rfl rfl (q_assign rfl) ?_) | (refine i_load ?_; refine l_q rfl rfl rfl (by (exact q_ldc tab rfl rfl rfl (by assumption))) ?_) | (refine i_bin ?_; refine l_q rfl rfl rfl (by (first | exact q_lss rfl rfl | exact q_add rfl rfl (by (exact wr_i64 (by omega))))) ?_) | (refine i_blt ?_; refine l_q rfl rfl rfl (by (exact q_len tab rfl rfl)) ?_) | (refine i_ix ?_; refine l_q rfl rfl rfl (by (exact q_indexAddr1 tab rfl rfl rfl rfl (by omega))) ?_))) | refine d_seq ?_ | refine c_region ?_ | refine l_nil ?_ | refine c_block ?_ | (refine i_q ?_; (first | refine d_then ?_ | refine t_then ?_ | refine t_block ?_)) | refine c_skip ?_ | (refine i_cond ?_; (first | refine c_ct rfl (by (rfl)) ?_ | refine c_cf rfl (by (rfl)) ?_))))
    exact k_again 1 (by omega) (by omega) (by simp only [cN0, cN1, cN2]; exact (by first | ((repeat (first | exact trivial | exact rfl | apply Sub.cons | exact look_int rfl (by omega) | exact look_int rfl (by simp) | exact look_int rfl (by simp; omega))); done) | fail)) (fun w h => h)
  · simp only [cN0, cN1, cN2]
    (repeat (first | (refine i_dst ?_; (first | (refine i_move ?_; refine l_q rfl rfl rfl (q_move rfl) ?_) | (refine i_assign ?_; refine l_q rfl rfl rfl (q_assign rfl) ?_) | (refine i_load ?_; refine l_q rfl rfl rfl (by (exact q_ldc tab rfl rfl rfl (by assumption))) ?_) | (refine i_bin ?_; refine l_q rfl rfl rfl (by (first | exact q_lss rfl rfl | exact q_add rfl rfl (by (exact wr_i64 (by omega))))) ?_) | (refine i_blt ?_; refine l_q rfl rfl rfl (by (exact q_len tab rfl rfl)) ?_) | (refine i_ix ?_; refine l_q rfl rfl rfl (by (exact q_indexAddr1 tab rfl rfl rfl rfl (by omega))) ?_))) | refine d_seq ?_ | refine c_region ?_ | refine l_nil ?_ | refine c_block ?_ | (refine i_q ?_; (first | refine d_then ?_ | refine t_then ?_ | refine t_block ?_)) | refine c_skip ?_ | (refine i_cond ?_; (first | refine c_ct rfl (by (rfl)) ?_ | refine c_cf rfl (by (rfl)) ?_))))
    exact k_again 2 (by omega) (by omega) (by simp only [cN0, cN1, cN2]; exact (by first | ((repeat (first | exact trivial | exact rfl | apply Sub.cons | exact look_int rfl (by omega) | exact look_int rfl (by simp) | exact look_int rfl (by simp; omega))); done) | fail)) (fun w h => h)
  · simp only [cN0, cN1, cN2]
    (repeat (first | (refine i_dst ?_; (first | (refine i_move ?_; refine l_q rfl rfl rfl (q_move rfl) ?_) | (refine i_bin ?_; refine l_q rfl rfl rfl (by (exact q_lss rfl rfl)) ?_))) | refine d_seq ?_ | refine c_region ?_ | refine l_nil ?_ | (refine i_q ?_; (first | refine d_then ?_ | refine d_then_exit ?_ | refine t_then_exit ?_ | refine t_block_eq rfl ?_)) | refine c_exit ?_ | (refine i_cond ?_; (refine c_cf rfl (by (rfl)) ?_))))
    (refine l_call0 rfl rfl Try.func64 rfl (by decide) (fun w' h => grow_spec ⟨by omega, by omega⟩) (fun v B hv => ?_); obtain ⟨b, c, rfl, rfl⟩ := hv)
    (repeat (first | (refine i_dst ?_; (first | (refine i_move ?_; refine l_q rfl rfl rfl (q_move rfl) ?_) | (refine i_assign ?_; refine l_q rfl rfl rfl (q_assign rfl) ?_) | (refine i_blt ?_; refine l_q rfl rfl rfl (by (exact q_len tab rfl rfl)) ?_))) | refine d_seq ?_ | refine c_region ?_ | refine l_nil ?_ | refine c_block ?_ | (refine i_q ?_; (refine d_then ?_))))
    refine d_loop (T := Nat × Option Addr × Nat) [25, 26] (fun t => [(27, .int .i64 (t.1 : Nat)), (6, .slice t.2.1 (cN n1 n2 t.1) t.2.2)]) [] (fun t => [row 5 1 (.slice t.2.1 (cN n1 n2 t.1) t.2.2) (cN n1 n2 t.1) (cL l1 l2 t.1)]) (fun t => t.1 ≤ 2) (fun t => 2 - t.1) (0, some ⟨b, 0, none⟩, c) (by first | ((repeat (first | exact Pick.nil | exact rfl | apply Pick.cons)); done) | fail) (by dsimp only; omega) (by first | ((repeat (first | exact trivial | exact rfl | apply Sub.cons | exact look_int rfl (by omega) | exact look_int rfl (by simp) | exact look_int rfl (by simp; omega))); done) | fail) (fun w h => h) ?_
    rintro ⟨t, At, ct⟩ ht
    dsimp only at ht ⊢
    rcases (by omega : t = 0 ∨ t = 1 ∨ t = 2) with rfl | rfl | rfl
    · simp only [cN0, cN1, cN2, cL0, cL1, cL2]
      (repeat (first | (refine i_dst ?_; (first | (refine i_move ?_; refine l_q rfl rfl rfl (q_move rfl) ?_) | (refine i_assign ?_; refine l_q rfl rfl rfl (q_assign rfl) ?_) | (refine i_load ?_; refine l_q rfl rfl rfl (by (exact q_ldc tab rfl rfl rfl (by assumption))) ?_) | (refine i_bin ?_; refine l_q rfl rfl rfl (by (exact q_lss rfl rfl)) ?_) | (refine i_ix ?_; refine l_q rfl rfl rfl (by (exact q_indexAddr1 tab rfl rfl rfl rfl (by omega))) ?_))) | refine d_seq ?_ | refine c_region ?_ | refine l_nil ?_ | refine c_block ?_ | (refine i_q ?_; (refine d_then ?_)) | refine c_skip ?_ | (refine i_cond ?_; (refine c_ct rfl (by (rfl)) ?_))))
      (refine l_app tab rfl rfl rfl rowB (by first | ((repeat (first | exact Ext.head | apply Ext.tail)); done) | fail) (news := bv l1) (fun w h => by rw [Nat.mul_one]; exact roB_src (h.ro h1)) (bv_one _) (by omega) (by omega) (fun A6 c6 hA1 hA2 => ?_))
      rw [Nat.zero_add, List.nil_append]
      (repeat (first | (refine i_dst ?_; (first | (refine i_move ?_; refine l_q rfl rfl rfl (q_move rfl) ?_) | (refine i_assign ?_; refine l_q rfl rfl rfl (q_assign rfl) ?_) | (refine i_bin ?_; refine l_q rfl rfl rfl (by (exact q_add rfl rfl (by (exact wr_i64 (by omega))))) ?_))) | refine c_region ?_ | refine l_nil ?_ | (refine i_q ?_; (first | refine d_then ?_ | refine t_then ?_ | refine t_block ?_))))
      exact k_again (1, A6, c6) (by dsimp only; omega) (by dsimp only; omega) (by simp only [cN0, cN1, cN2]; exact (by first | ((repeat (first | exact trivial | exact rfl | apply Sub.cons | exact look_int rfl (by omega) | exact look_int rfl (by simp) | exact look_int rfl (by simp; omega))); done) | fail)) (fun w h => h)
    · simp only [cN0, cN1, cN2, cL0, cL1, cL2]
      (repeat (first | (refine i_dst ?_; (first | (refine i_move ?_; refine l_q rfl rfl rfl (q_move rfl) ?_) | (refine i_assign ?_; refine l_q rfl rfl rfl (q_assign rfl) ?_) | (refine i_load ?_; refine l_q rfl rfl rfl (by (exact q_ldc tab rfl rfl rfl (by assumption))) ?_) | (refine i_bin ?_; refine l_q rfl rfl rfl (by (exact q_lss rfl rfl)) ?_) | (refine i_ix ?_; refine l_q rfl rfl rfl (by (exact q_indexAddr1 tab rfl rfl rfl rfl (by omega))) ?_))) | refine d_seq ?_ | refine c_region ?_ | refine l_nil ?_ | refine c_block ?_ | (refine i_q ?_; (refine d_then ?_)) | refine c_skip ?_ | (refine i_cond ?_; (refine c_ct rfl (by (rfl)) ?_))))
      (refine l_app tab rfl rfl rfl rowB (by first | ((repeat (first | exact Ext.head | apply Ext.tail)); done) | fail) (news := bv l2) (fun w h => by rw [Nat.mul_one]; exact roB_src (h.ro h2)) (bv_one _) (by omega) (by omega) (fun A6 c6 hA1 hA2 => ?_))
      rw [← bv_append]
      (repeat (first | (refine i_dst ?_; (first | (refine i_move ?_; refine l_q rfl rfl rfl (q_move rfl) ?_) | (refine i_assign ?_; refine l_q rfl rfl rfl (q_assign rfl) ?_) | (refine i_bin ?_; refine l_q rfl rfl rfl (by (exact q_add rfl rfl (by (exact wr_i64 (by omega))))) ?_))) | refine c_region ?_ | refine l_nil ?_ | (refine i_q ?_; (first | refine d_then ?_ | refine t_then ?_ | refine t_block ?_))))
      exact k_again (2, A6, c6) (by dsimp only; omega) (by dsimp only; omega) (by simp only [cN0, cN1, cN2]; exact (by first | ((repeat (first | exact trivial | exact rfl | apply Sub.cons | exact look_int rfl (by omega) | exact look_int rfl (by simp) | exact look_int rfl (by simp; omega))); done) | fail)) (fun w h => h)
    · simp only [cN0, cN1, cN2, cL0, cL1, cL2]
      refine c_fact (p := ∃ b', At = some ⟨b', 0, none⟩ ∧ n1 + n2 ≤ ct ∧ ct ≤ maxLen) (fun w h => ?_) ?_
      · obtain ⟨g', cap, junk, e1, q1, q2, -⟩ := row_blk (h.get (i := 0) rfl) (by omega)
        injection e1 with e1 _ e3
        exact ⟨g', e1, by omega, by omega⟩
      rintro ⟨b', rfl, q1, q2⟩
      (repeat (first | (refine i_dst ?_; (first | (refine i_move ?_; refine l_q rfl rfl rfl (q_move rfl) ?_) | (refine i_assign ?_; refine l_q rfl rfl rfl (q_assign rfl) ?_) | (refine i_bin ?_; refine l_q rfl rfl rfl (by (exact q_lss rfl rfl)) ?_))) | refine d_seq ?_ | refine c_region ?_ | refine l_nil ?_ | (refine i_q ?_; (first | refine d_then ?_ | refine d_then_exit ?_ | refine t_then_exit ?_ | refine t_block_eq rfl ?_)) | refine c_exit ?_ | refine c_ret ?_ | (refine i_cond ?_; (refine c_cf rfl (by (rfl)) ?_))))
      exact t_hp (hp' := [row 5 1 (.slice (some ⟨b', 0, none⟩) (n1 + n2) ct) (n1 + n2) (bv (l1 ++ l2))]) (fun w h => h.psub (by first | ((repeat (first | exact PSub.nil | exact Ext.head | apply Ext.tail | apply PSub.cons)); done) | fail)) (t_ret1 Try.results58 rfl ⟨b', ct, rfl, q1, q2, rfl⟩)
theorem width4_spec (w : World) : Calls Try.prog 56 #[.int .i64 4] w (Ret w [] fun v B => v = .bool true ∧ B = []) := by
  refine enter (vs := [.int .i64 4]) Try.func56 rfl Try.ntmps56 rfl (Hold.nil w) ?_
  (repeat (first | (refine i_dst ?_; (first | (refine i_move ?_; refine l_q rfl rfl rfl (q_move rfl) ?_) | (refine i_assign ?_; refine l_q rfl rfl rfl (q_assign rfl) ?_) | (refine i_bin ?_; refine l_q rfl rfl rfl (by (first | exact q_eql rfl rfl | exact q_geq rfl rfl | exact q_leq rfl rfl | exact q_sub rfl rfl (by (first | exact wr_i64 (by omega) | rfl)) | exact q_bits rfl rfl rfl (fun w => rfl))) ?_) | refine l_q rfl rfl rfl (by (exact q_pick_t rfl rfl)) ?_)) | refine d_seq ?_ | refine c_region ?_ | refine l_nil ?_ | (refine i_q ?_; (refine d_then ?_)) | refine c_ret ?_ | (refine i_guard ?_; (refine l_gt rfl rfl rfl ?_))))
  exact t_ret1 Try.results56 rfl ⟨rfl, rfl⟩
end Go.Proofs.Ytboccjdncdaakaa

/-
  num.Put, num.Take (of four bytes, the greatest first), walked.
-/

set_option linter.unusedVariables false
set_option maxRecDepth 100000
namespace Go.Proofs.Ytboccjdncdaakaa
open Go.RowKit
attribute [local irreducible] TL TC TQ TK TO Qt TA
def le (v : Nat) : Nat → List Int
  | 0 => []
  | t + 1 => le v t ++ [((v / 256 ^ t % 256 : Nat) : Int)]
theorem le_len (v : Nat) : ∀ t, (le v t).length = t
  | 0 => rfl
  | t + 1 => by rw [le, List.length_append, le_len v t]; rfl
def be4 (v : Nat) : List Int := [((v / 256 ^ 3 % 256 : Nat) : Int), ((v / 256 ^ 2 % 256 : Nat) : Int), ((v / 256 ^ 1 % 256 : Nat) : Int), ((v / 256 ^ 0 % 256 : Nat) : Int)]
theorem be4_oct (v : Nat) : Oct (be4 v) := fun x hx => by
  simp only [be4, List.mem_cons, List.not_mem_nil, or_false] at hx
  rcases hx with rfl | rfl | rfl | rfl <;> omega
/-- The number that bytes are. -/
def beV : List Int → Nat → Nat
  | [], a => a
  | b :: l, a => beV l (a * 256 + b.toNat)
theorem beV_be4 {v : Nat} (h : v < 4294967296) : beV (be4 v) 0 = v := by
  simp only [be4, beV, Int.toNat_natCast]
  omega
theorem beV_snoc : ∀ (l : List Int) (b : Int) (a : Nat), beV (l ++ [b]) a = beV l a * 256 + b.toNat
  | [], b, a => rfl
  | x :: l, b, a => by rw [List.cons_append, beV, beV, beV_snoc l b]
theorem beV_lt {l : List Int} (h : Oct l) : beV l 0 < 256 ^ l.length := by
  have key : ∀ (l : List Int) (a k : Nat), Oct l → a < 256 ^ k → beV l a < 256 ^ (k + l.length) := fun l => by
    induction l with
    | nil => intro a k _ h; exact h
    | cons b l ih =>
      intro a k ho h
      have hb := ho b (by simp)
      have h1 : a * 256 + b.toNat < 256 ^ (k + 1) := by rw [Nat.pow_succ]; omega
      have h2 := ih _ _ (fun x hx => ho x (by simp [hx])) h1
      rw [beV, List.length_cons, show k + (l.length + 1) = k + 1 + l.length by omega]
      exact h2
  have := key l 0 0 h (by decide)
  rwa [Nat.zero_add] at this
theorem or_run {P : Program} {k c : Nat} (hk : k < 2 ^ 50) (hc : c < 256) (w : World) : (Op.intBits .or .u64 ((k * 256 : Nat) : Int) (c : Int)).run P w = .ok (.int .u64 ((k * 256 + c : Nat) : Int)) w := by
  have h1 : (BitVec.ofInt 64 ((k * 256 : Nat) : Int)) = BitVec.ofNat 64 (k * 256) := BitVec.ofInt_natCast _ _
  have h2 : (BitVec.ofInt 64 (c : Int)) = BitVec.ofNat 64 c := BitVec.ofInt_natCast _ _
  have h3 : (BitVec.ofNat 64 (k * 256) ||| BitVec.ofNat 64 c).toNat = k * 256 + c := by
    rw [BitVec.toNat_or, BitVec.toNat_ofNat, BitVec.toNat_ofNat, Nat.mod_eq_of_lt (by omega), Nat.mod_eq_of_lt (by omega)]
    have := Nat.shiftLeft_add_eq_or_of_lt (b := c) (i := 8) (by omega) k
    rw [Nat.shiftLeft_eq] at this
    exact this.symm
  show (Sem.run P (pure (Value.int IntKind.u64 (IntKind.u64.wrap ((BitVec.ofInt 64 ((k * 256 : Nat) : Int) ||| BitVec.ofInt 64 (c : Int)).toNat : Nat)))) w) = _
  rw [h1, h2, h3]
  have : IntKind.u64.wrap ((k * 256 + c : Nat) : Int) = ((k * 256 + c : Nat) : Int) := wr_u64 (by omega)
  rw [this]
  rfl
attribute [local irreducible] blk row bytesA starL memA segA roB
set_option maxHeartbeats 8000000 in
theorem nput_spec {w : World} {A : Option Addr} {n c : Nat} {l : List Int} (hr : Ro (fps []) w (roB A n l)) (hn : 0 < n ∧ n ≤ 50) (nv : Nat) (hv : nv < 4294967296) :
    Calls Try.prog 42 #[.slice A n c, .int .u64 nv, .int .i64 4, .bool true] w (Ret w [] fun r B => ∃ b c', r = .tuple #[.slice (some ⟨b, 0, none⟩) (n + 4) c', .int .i64 0] ∧ n + 4 ≤ c' ∧ c' ≤ maxLen ∧ B = [row 5 1 (.slice (some ⟨b, 0, none⟩) (n + 4) c') (n + 4) (bv (l ++ be4 nv))]) := by
  refine enter (vs := [.slice A n c, .int .u64 nv, .int .i64 4, .bool true]) Try.func42 rfl Try.ntmps42 rfl (Hold.nil w) ?_
  have hmx : maxLen = 2 ^ 63 - 1 := rfl
  (repeat (first | (refine i_dst ?_; (first | (refine i_move ?_; refine l_q rfl rfl rfl (q_move rfl) ?_) | (refine i_assign ?_; refine l_q rfl rfl rfl (q_assign rfl) ?_))) | refine d_seq ?_ | refine c_region ?_ | refine l_nil ?_ | (refine i_q ?_; (refine d_then ?_))))
  (refine l_call0 rfl rfl Try.func56 rfl (by decide) (fun w' h => width4_spec w') (fun v B hv => ?_); obtain ⟨rfl, rfl⟩ := hv)
  (repeat (first | (refine i_dst ?_; (first | (refine i_move ?_; refine l_q rfl rfl rfl (q_move rfl) ?_) | (refine i_assign ?_; refine l_q rfl rfl rfl (q_assign rfl) ?_) | refine l_q rfl rfl rfl (by (exact q_not rfl)) ?_)) | refine d_seq ?_ | refine c_region ?_ | refine l_nil ?_ | refine c_block ?_ | (refine i_q ?_; (refine d_then ?_)) | refine c_skip ?_ | (refine i_cond ?_; (refine c_cf rfl (by (rfl)) ?_))))
  refine d_loop (T := Nat × Value) [0, 3, 14] (fun t => [(15, .int .i64 t.1), (10, t.2), (1, .int .u64 (nv / 256 ^ t.1 : Nat))]) [] (fun t => [row 5 1 t.2 t.1 (bv (le nv t.1))]) (fun t => t.1 ≤ 4) (fun t => 4 - t.1) (0, .slice none 0 0) (by first | ((repeat (first | exact Pick.nil | exact rfl | apply Pick.cons)); done) | fail) (by dsimp only; omega) (by simp only [Nat.pow_zero, Nat.div_one]; exact (by first | ((repeat (first | exact trivial | exact rfl | apply Sub.cons | exact look_int rfl (by omega) | exact look_int rfl (by simp) | exact look_int rfl (by simp; omega))); done) | fail)) (fun w h => (st_nil h 5 1).psub (by first | ((repeat (first | exact PSub.nil | exact Ext.head | apply Ext.tail | apply PSub.cons)); done) | fail)) ?_
  rintro ⟨t, xv⟩ ht
  dsimp only at ht ⊢
  refine c_fact (p := ∃ Ax cx, xv = .slice Ax t cx ∧ t ≤ cx ∧ cx ≤ maxLen) (fun w h => ?_) ?_
  · obtain ⟨Ax, cx, e1, e2, e3, -⟩ := row_slice (h.get (i := 0) rfl)
    exact ⟨Ax, cx, e1, e2, e3⟩
  rintro ⟨Ax, cx, rfl, hx1, hx2⟩
  by_cases h4 : t < 4
  · obtain ⟨vt, hvt⟩ : ∃ vt, vt = nv / 256 ^ t := ⟨_, rfl⟩
    have hnext : vt / 256 = nv / 256 ^ (t + 1) := by rw [hvt, Nat.div_div_eq_div_mul, Nat.pow_succ]
    rw [← hvt]
    (repeat (first | (refine i_dst ?_; (first | (refine i_move ?_; refine l_q rfl rfl rfl (q_move rfl) ?_) | (refine i_bin ?_; refine l_q rfl rfl rfl (by (exact q_lss rfl rfl)) ?_) | (refine i_bldS ?_; refine l_bldS tab rfl rfl rfl rfl (by first | exact CellsOf.agg | exact CellsOf.one rfl) (by first | ((repeat (first | exact RepR.zero | exact AppR.nil | apply RepR.succ | apply AppR.cons)); done) | fail) (by first | ((repeat (first | exact FillR.nil | exact LSets.nil | exact LSet.zero | exact CellsOf.agg | exact rfl | exact CellsOf.one rfl | apply FillR.cons | apply LSets.cons | apply LSet.succ)); done) | fail) (fun w => by kernel_rfl) (fun _ => ?_)) | (refine l_q rfl rfl rfl (by ((apply iq_cv; (exact q_conv tab rfl rfl rfl (by (rfl)))))) ?_))) | refine d_seq ?_ | refine c_region ?_ | refine l_nil ?_ | refine c_block ?_ | (refine i_q ?_; (refine d_then ?_)) | refine c_skip ?_ | (refine i_cond ?_; (refine c_ct rfl (by (exact decide_eq_true (by omega))) ?_))))
    rw [show IntKind.u8.wrap (vt : Int) = ((vt % 256 : Nat) : Int) by rw [IntKind.wrap_u8]; omega]
    rename_i gb
    (refine l_app tab rfl rfl rfl rowB (by first | ((repeat (first | exact Ext.head | apply Ext.tail)); done) | fail) (news := bv [((vt % 256 : Nat) : Int)]) (fun w h => SrcAt.blk (h.mem (X := blk gb _ _) (by first | ((repeat (first | exact List.Mem.head _ | apply List.Mem.tail)); done) | fail)) rfl) (bv_one _) (by omega) (by omega) (fun A6 c6 hA1 hA2 => ?_))
    rw [← bv_append]
    (repeat (first | (refine i_dst ?_; (first | (refine i_move ?_; refine l_q rfl rfl rfl (q_move rfl) ?_) | (refine i_assign ?_; refine l_q rfl rfl rfl (q_assign rfl) ?_))) | refine c_region ?_ | refine l_nil ?_ | (refine i_q ?_; (refine d_then ?_))))
    refine i_dst (l_q rfl rfl rfl (q_shr (m := (vt : Int)) (s := 8) rfl rfl (r := ((vt / 256 : Nat) : Int)) (by show (vt : Int).fdiv 256 = _; rw [Int.fdiv_eq_ediv_of_nonneg _ (by omega)]; omega)) ?_)
    (repeat (first | (refine i_dst ?_; (first | (refine i_move ?_; refine l_q rfl rfl rfl (q_move rfl) ?_) | (refine i_assign ?_; refine l_q rfl rfl rfl (q_assign rfl) ?_) | (refine i_bin ?_; refine l_q rfl rfl rfl (by (exact q_add rfl rfl (by (exact wr_i64 (by omega))))) ?_))) | refine c_region ?_ | refine l_nil ?_ | (refine i_q ?_; (first | refine d_then ?_ | refine t_then ?_ | refine t_block ?_))))
    refine k_again (t + 1, .slice A6 (t + 1) c6) (by dsimp only; omega) (by dsimp only; omega) (by dsimp only; rw [← hnext]; exact (by first | ((repeat (first | exact trivial | exact rfl | apply Sub.cons | exact look_int rfl (by omega) | exact look_int rfl (by simp) | exact look_int rfl (by simp; omega))); done) | fail)) (fun w h => ?_)
    dsimp only
    rw [le, ← hvt]
    exact h.psub (by first | ((repeat (first | exact PSub.nil | exact Ext.head | apply Ext.tail | apply PSub.cons)); done) | fail)
  · obtain rfl : t = 4 := by omega
    refine c_ex (fun w h => row_open (by omega) h) ?_
    rintro ⟨g, junk⟩ ⟨rfl, -, -, hjl⟩
    dsimp only at hjl ⊢
    have e4 : bv (le nv 4) ++ junk = .int .u8 ((nv / 256 ^ 0 % 256 : Nat) : Int) :: .int .u8 ((nv / 256 ^ 1 % 256 : Nat) : Int) :: .int .u8 ((nv / 256 ^ 2 % 256 : Nat) : Int) :: .int .u8 ((nv / 256 ^ 3 % 256 : Nat) : Int) :: junk := rfl
    rw [e4] at hjl ⊢
    (repeat (first | (refine i_dst ?_; (first | (refine i_move ?_; refine l_q rfl rfl rfl (q_move rfl) ?_) | (refine i_bin ?_; refine l_q rfl rfl rfl (by (exact q_lss rfl rfl)) ?_))) | refine d_seq ?_ | refine c_region ?_ | refine l_nil ?_ | (refine i_q ?_; (first | refine d_then ?_ | refine d_then_exit ?_ | refine t_then_exit ?_ | refine t_block_eq rfl ?_)) | refine c_exit ?_ | (refine i_cond ?_; (first | refine c_ct rfl (by (rfl)) ?_ | refine c_cf rfl (by (rfl)) ?_))))
    (refine l_call1 (X := blk g (.int .u8 ((nv / 256 ^ 0 % 256 : Nat) : Int) :: .int .u8 ((nv / 256 ^ 1 % 256 : Nat) : Int) :: .int .u8 ((nv / 256 ^ 2 % 256 : Nat) : Int) :: .int .u8 ((nv / 256 ^ 3 % 256 : Nat) : Int) :: junk) 5) (by first | ((repeat (first | exact Ext.head | apply Ext.tail)); done) | fail) rfl rfl Try.func57 rfl (by decide) (fun w' h => rev4_spec h.split ⟨hx1, hx2⟩) (fun v B hv => ?_); obtain rfl := hv)
    (repeat (first | (refine i_dst ?_; (first | (refine i_move ?_; refine l_q rfl rfl rfl (q_move rfl) ?_) | (refine i_bldS ?_; refine l_bldS tab rfl rfl rfl rfl (by first | exact CellsOf.agg | exact CellsOf.one rfl) (by first | ((repeat (first | exact RepR.zero | exact AppR.nil | apply RepR.succ | apply AppR.cons)); done) | fail) (by first | ((repeat (first | exact FillR.nil | exact LSets.nil | exact LSet.zero | exact CellsOf.agg | exact rfl | exact CellsOf.one rfl | apply FillR.cons | apply LSets.cons | apply LSet.succ)); done) | fail) (fun w => by kernel_rfl) (fun _ => ?_)))) | refine d_seq ?_ | refine c_region ?_ | refine l_nil ?_ | (refine i_q ?_; (refine d_then ?_))))
    rename_i gg
    (refine l_call0 rfl rfl Try.func58 rfl (by decide) (fun w' h => concat_spec (h.mem (X := blk gg [.slice A n c, .slice (some ⟨g, 0, none⟩) 4 cx] _) (by first | ((repeat (first | exact List.Mem.head _ | apply List.Mem.tail)); done) | fail)) (roOf0 h hr) (Ro.bytes (Ro.empty (bytesA_shut (l := be4 nv) (junk := junk) (h.mem (X := blk g _ 5) (by first | ((repeat (first | exact List.Mem.head _ | apply List.Mem.tail)); done) | fail)) (be4_oct nv) (by have := hjl; simp [be4] at this ⊢; omega) hx2))) ⟨hn.1, by omega, by omega⟩) (fun v B hv => ?_); obtain ⟨b, c', rfl, hc1, hc2, rfl⟩ := hv)
    (repeat (first | (refine i_dst ?_; ((refine i_assign ?_; refine l_q rfl rfl rfl (q_assign rfl) ?_))) | refine l_nil ?_ | (refine i_q ?_; (refine d_then ?_)) | refine c_ret ?_))
    exact t_hp (hp' := [row 5 1 (.slice (some ⟨b, 0, none⟩) (n + 4) c') (n + 4) (bv (l ++ be4 nv))]) (fun w h => h.psub (by first | ((repeat (first | exact PSub.nil | exact Ext.head | apply Ext.tail | apply PSub.cons)); done) | fail)) (t_ret2 Try.results42 rfl rfl ⟨b, c', rfl, hc1, hc2, rfl⟩)

end Go.Proofs.Ytboccjdncdaakaa

/-
  cmd.Put, walked.
-/

set_option linter.unusedVariables false
set_option maxRecDepth 100000
namespace Go.Proofs.Ytboccjdncdaakaa
open Go.RowKit
attribute [local irreducible] TL TC TQ TK TO Qt TA
def asI (a0 a1 a2 a3 a4 : Nat) : List Int := [(a0 : Int), (a1 : Int), (a2 : Int), (a3 : Int), (a4 : Int)]
/-- A command's bytes. -/
def encC (code a0 a1 a2 a3 a4 w32 : Nat) (b : List Int) (s : Nat) (g : Bool) : List Int := ((code : Int) :: (asI a0 a1 a2 a3 a4).take s) ++ (if g = true then be4 w32 else []) ++ b
theorem src_as {code a0 a1 a2 a3 a4 w32 s b1 n c : Nat} {A : Option Addr} {w : World} (hs : s ≤ 5) (h : (blk b1 [.int .u8 code, .int .u8 a0, .int .u8 a1, .int .u8 a2, .int .u8 a3, .int .u8 a4, .int .u32 w32, .slice A n c] 59).C w) : SrcAt w (some ⟨b1, 0 + 1, none⟩) (s * 1) (bv ((asI a0 a1 a2 a3 a4).take s)) := by
  rcases (by omega : s = 0 ∨ s = 1 ∨ s = 2 ∨ s = 3 ∨ s = 4 ∨ s = 5) with rfl | rfl | rfl | rfl | rfl | rfl
  · exact ⟨rfl, fun h => by omega⟩
  · exact ⟨rfl, fun _ => ⟨b1, 1, rfl, blk_cells (q := 1) h rfl⟩⟩
  · exact ⟨rfl, fun _ => ⟨b1, 1, rfl, blk_cells (q := 2) h rfl⟩⟩
  · exact ⟨rfl, fun _ => ⟨b1, 1, rfl, blk_cells (q := 3) h rfl⟩⟩
  · exact ⟨rfl, fun _ => ⟨b1, 1, rfl, blk_cells (q := 4) h rfl⟩⟩
  · exact ⟨rfl, fun _ => ⟨b1, 1, rfl, blk_cells (q := 5) h rfl⟩⟩
theorem rowg_S {e : TypeId} {size g b n k c : Nat} {xs l : List Value} (h : (row e size (.slice (some ⟨g, 0, none⟩) n c) k xs).S b) : (blk g l e).S b := by
  injection h with h
  exact h.symm
attribute [local irreducible] blk row bytesA starL memA segA roB
set_option maxHeartbeats 16000000 in
theorem cput_spec (code a0 a1 a2 a3 a4 w32 : Nat) (hcd : code ≤ 255) (ha : a0 ≤ 255 ∧ a1 ≤ 255 ∧ a2 ≤ 255 ∧ a3 ≤ 255 ∧ a4 ≤ 255) (hw32 : w32 < 4294967296) (A : Option Addr) (n c : Nat) (b : List Int) (w : World) (hr : Ro (fps []) w (roB A n b)) (hn : n ≤ 50) : Calls Try.prog 32 #[.agg #[.int .u8 code, .int .u8 a0, .int .u8 a1, .int .u8 a2, .int .u8 a3, .int .u8 a4, .int .u32 w32, .slice A n c]] w (Ret w [] fun v B => (v = .tuple #[.slice none 0 0, .int .i64 1] ∧ B = []) ∨ ∃ s g m Av cv, FitsOk code a0 a1 a2 a3 a4 w32 n s g m ∧ v = .tuple #[.slice Av (encC code a0 a1 a2 a3 a4 w32 b s g).length cv, .int .i64 0] ∧ B = [bytesA (.slice Av (encC code a0 a1 a2 a3 a4 w32 b s g).length cv) (encC code a0 a1 a2 a3 a4 w32 b s g)]) := by
  have hbl := roB_len hr.is
  have hbo := roB_oct hr.is
  refine enter (vs := [.agg #[.int .u8 code, .int .u8 a0, .int .u8 a1, .int .u8 a2, .int .u8 a3, .int .u8 a4, .int .u32 w32, .slice A n c]]) Try.func32 rfl Try.ntmps32 rfl (Hold.nil w) ?_
  have hmx : maxLen = 2 ^ 63 - 1 := rfl
  (repeat (first | (refine i_dst ?_; (first | (refine i_assign ?_; refine l_q rfl rfl rfl (q_assign rfl) ?_) | (refine i_load ?_; refine l_q rfl rfl rfl (by ((exact q_ldN tab rfl rfl rfl rfl (by first | ((repeat (first | exact List.Mem.head _ | apply List.Mem.tail)); done) | fail) (by first | ((repeat (first | exact TakeR.nil | apply TakeR.cons | apply CutR.zero | apply CutR.skip)); done) | fail)))) ?_) | (refine i_box ?_; (refine l_boxA rfl rfl (fun _ => ?_))))) | refine d_seq ?_ | refine c_region ?_ | refine l_nil ?_ | (refine i_q ?_; (refine d_then ?_))))
  rename_i b1
  (refine l_call0 rfl rfl Try.func40 rfl (by decide) (fun w' h => fits_spec code a0 a1 a2 a3 a4 w32 hcd ha.1 A n c w') (fun v B hv => ?_); obtain ⟨ok, rfl, rfl, hfit⟩ := hv)
  cases ok with
  | false =>
    (repeat (first | (refine i_dst ?_; (first | (refine i_assign ?_; refine l_q rfl rfl rfl (q_assign rfl) ?_) | refine l_q rfl rfl rfl (by (exact q_not rfl)) ?_)) | refine d_seq ?_ | refine c_region ?_ | refine l_nil ?_ | (refine i_q ?_; (first | refine d_then ?_ | refine d_then_ret ?_)) | refine c_ret ?_ | (refine i_cond ?_; (refine c_ct rfl (by (rfl)) ?_))))
    exact t_hp (hp' := []) (fun w h => h.psub (by first | ((repeat (first | exact PSub.nil | exact Ext.head | apply Ext.tail | apply PSub.cons)); done) | fail)) (t_ret2 Try.results32 rfl rfl (.inl ⟨rfl, rfl⟩))
  | true =>
    obtain ⟨s, g, m, hfit⟩ := hfit rfl
    obtain ⟨⟨hs5, -⟩, hg2, -⟩ := shape_some hfit.sh
    have hao : Oct (asI a0 a1 a2 a3 a4) := fun x hx => by
      simp only [asI, List.mem_cons, List.not_mem_nil, or_false] at hx
      rcases hx with rfl | rfl | rfl | rfl | rfl <;> omega
    have h1o : Oct ((code : Int) :: (asI a0 a1 a2 a3 a4).take s) := fun x hx => by
      rcases List.mem_cons.1 hx with rfl | hx
      · omega
      · exact hao x (List.mem_of_mem_take hx)
    have h1l : ((code : Int) :: (asI a0 a1 a2 a3 a4).take s).length = 1 + s := by
      rw [List.length_cons, List.length_take]
      show min s 5 + 1 = _
      omega
    (repeat (first | (refine i_dst ?_; (first | (refine i_load ?_; refine l_q rfl rfl rfl (by ((exact q_ld1 tab rfl rfl rfl (by first | ((repeat (first | exact List.Mem.head _ | apply List.Mem.tail)); done) | fail) (by (rfl))))) ?_) | (refine l_q rfl rfl rfl (by (first | (apply iq_fld; (exact q_fieldAddr tab rfl rfl rfl rfl rfl rfl rfl)) | exact q_not rfl)) ?_))) | refine d_seq ?_ | refine c_region ?_ | refine l_nil ?_ | (refine i_q ?_; (refine d_then ?_)) | refine c_skip ?_ | (refine i_cond ?_; (refine c_cf rfl (by (rfl)) ?_))))
    (refine l_call0 rfl rfl Try.func41 rfl (by decide) (fun w' h => shape_spec code hcd w') (fun v B hv => ?_); obtain ⟨rfl, rfl⟩ := hv)
    rw [hfit.sh, shV]
    (repeat (first | (refine i_dst ?_; (first | (refine i_move ?_; refine l_q rfl rfl rfl (q_move rfl) ?_) | (refine i_assign ?_; refine l_q rfl rfl rfl (q_assign rfl) ?_) | refine l_q rfl rfl rfl (by (exact q_extract rfl rfl)) ?_)) | refine d_seq ?_ | refine l_nil ?_ | (refine i_q ?_; (refine d_then ?_))))
    (refine a_begin mixed [blk b1 [.int .u8 code, .int .u8 a0, .int .u8 a1, .int .u8 a2, .int .u8 a3, .int .u8 a4, .int .u32 w32, .slice A n c] 59] 8 rfl (fun w h => h.subl (by first | ((repeat (first | exact SubL.nil | apply SubL.keep | apply SubL.skip)); done) | fail)) ?_)
    refine a_q 0 rfl rfl rfl rfl rfl (by decide +kernel) (q_fieldAddr tab rfl rfl rfl rfl rfl rfl rfl) ?_
    refine a_q 1 rfl rfl rfl rfl rfl (by decide +kernel) (q_ld1 tab rfl rfl rfl (by first | ((repeat (first | exact List.Mem.head _ | apply List.Mem.tail)); done) | fail) rfl) ?_
    refine a_q 3 rfl rfl rfl rfl rfl (by decide +kernel) (q_fieldAddr tab rfl rfl rfl rfl rfl rfl rfl) ?_
    refine a_q 4 rfl rfl rfl rfl rfl (by decide +kernel) (q_move rfl) ?_
    refine a_q 5 rfl rfl rfl rfl rfl (by decide +kernel) (q_arHi (h := s) tab rfl rfl rfl rfl (by omega) (by omega)) ?_
    (refine a_e 2 rfl (by decide +kernel) rfl (fun K hK => e_bldS tab rfl rfl rfl rfl (by first | exact CellsOf.agg | exact CellsOf.one rfl) (by first | ((repeat (first | exact RepR.zero | exact AppR.nil | apply RepR.succ | apply AppR.cons)); done) | fail) (by first | ((repeat (first | exact FillR.nil | exact LSets.nil | exact LSet.zero | exact CellsOf.agg | exact rfl | exact CellsOf.one rfl | apply FillR.cons | apply LSets.cons | apply LSet.succ)); done) | fail) (fun w => by kernel_rfl) (fun g2 => hK _ _ (fun w h => h.subl (by first | ((repeat (first | exact SubL.nil | apply SubL.keep | apply SubL.skip)); done) | fail)) ?_)); clear hK)
    refine a_hp (hp' := [row 5 1 (.slice (some ⟨g2, 0, none⟩) 1 1) 1 (bv [(code : Int)]), blk b1 [.int .u8 code, .int .u8 a0, .int .u8 a1, .int .u8 a2, .int .u8 a3, .int .u8 a4, .int .u32 w32, .slice A n c] 59]) (fun w h => (h.see (i := 0) rfl (fun h => row_of_blk h 1 1 1 (Nat.le_refl _) (by omega) rfl (bv [(code : Int)]) rfl) (fun b hb => rowg_S hb)).psub (by first | ((repeat (first | exact PSub.nil | exact Ext.head | apply Ext.tail | apply PSub.cons)); done) | fail)) (fun w h => h.subl (by first | ((repeat (first | exact SubL.nil | apply SubL.keep | apply SubL.skip)); done) | fail)) ?_
    (refine a_e 6 rfl (by decide +kernel) rfl (fun K hK => e_app tab rfl rfl rfl rowB (by first | ((repeat (first | exact Ext.head | apply Ext.tail)); done) | fail) (news := bv ((asI a0 a1 a2 a3 a4).take s)) (fun w h => src_as hs5 (h.mem (X := blk b1 [.int .u8 code, .int .u8 a0, .int .u8 a1, .int .u8 a2, .int .u8 a3, .int .u8 a4, .int .u32 w32, .slice A n c] 59) (by first | ((repeat (first | exact List.Mem.head _ | apply List.Mem.tail)); done) | fail))) (bv_one _) (by omega) (by omega) (fun A5 c5 hA1 hA2 => hK _ _ (fun w h => h.subl (by first | ((repeat (first | exact SubL.nil | apply SubL.keep | apply SubL.skip)); done) | fail)) ?_)); clear hK)
    rw [← bv_append, List.singleton_append]
    refine a_q 7 rfl rfl rfl rfl rfl (by decide +kernel) (q_assign rfl) ?_
    refine a_done (by decide +kernel) ?_
    cases g with
    | true =>
      have hek : encC code a0 a1 a2 a3 a4 w32 b s true = ((code : Int) :: (asI a0 a1 a2 a3 a4).take s) ++ be4 w32 ++ b := by rw [encC, if_pos rfl]
      have hkl : (((code : Int) :: (asI a0 a1 a2 a3 a4).take s) ++ be4 w32 ++ b).length = 1 + s + 4 + n := by rw [List.length_append, List.length_append, h1l, hbl]; rfl
      have hoe : Oct (((code : Int) :: (asI a0 a1 a2 a3 a4).take s) ++ be4 w32 ++ b) := (h1o.append (be4_oct w32)).append hbo
      (repeat (first | (refine i_dst ?_; (first | (refine i_move ?_; refine l_q rfl rfl rfl (q_move rfl) ?_) | (refine i_load ?_; refine l_q rfl rfl rfl (by ((exact q_ld1 tab rfl rfl rfl (by first | ((repeat (first | exact List.Mem.head _ | apply List.Mem.tail)); done) | fail) (by (rfl))))) ?_) | (refine l_q rfl rfl rfl (by (first | (apply iq_fld; (exact q_fieldAddr tab rfl rfl rfl rfl rfl rfl rfl)) | (apply iq_cv; (exact q_conv tab rfl rfl rfl (by (exact wr_u64 (by omega))))))) ?_))) | refine d_seq ?_ | refine c_region ?_ | refine l_nil ?_ | (refine i_q ?_; (refine d_then ?_)) | (refine i_cond ?_; (refine c_ct rfl (by (rfl)) ?_))))
      (refine l_call0 rfl rfl Try.func42 rfl (by decide) (fun w' h => nput_spec (l := ((code : Int) :: (asI a0 a1 a2 a3 a4).take s)) (Ro.bytes (Ro.empty (bytesA_of h1l h1o (h.mem (X := row 5 1 (.slice A5 (1 + s) c5) (1 + s) (bv (((code : Int) :: (asI a0 a1 a2 a3 a4).take s)))) (by first | ((repeat (first | exact List.Mem.head _ | apply List.Mem.tail)); done) | fail))))) ⟨by omega, by omega⟩ w32 hw32) (fun v B hv => ?_); obtain ⟨bq, cq, rfl, hq1, hq2, rfl⟩ := hv)
      (repeat (first | (refine i_dst ?_; (first | (refine i_move ?_; refine l_q rfl rfl rfl (q_move rfl) ?_) | (refine i_assign ?_; refine l_q rfl rfl rfl (q_assign rfl) ?_) | (refine i_load ?_; refine l_q rfl rfl rfl (by ((exact q_ld1 tab rfl rfl rfl (by first | ((repeat (first | exact List.Mem.head _ | apply List.Mem.tail)); done) | fail) (by (rfl))))) ?_) | (refine i_bin ?_; refine l_q rfl rfl rfl (by (exact q_neq rfl rfl)) ?_) | (refine l_q rfl rfl rfl (by (first | exact q_extract rfl rfl | (apply iq_fld; (exact q_fieldAddr tab rfl rfl rfl rfl rfl rfl rfl)))) ?_))) | refine d_seq ?_ | refine c_region ?_ | refine l_nil ?_ | (refine i_q ?_; (refine d_then ?_)) | refine c_skip ?_ | (refine i_cond ?_; (refine c_cf rfl (by (rfl)) ?_))))
      (refine l_app tab rfl rfl rfl rowB (by first | ((repeat (first | exact Ext.head | apply Ext.tail)); done) | fail) (news := bv b) (fun w h => by rw [Nat.mul_one]; exact roB_src (h.ro hr)) (bv_one _) (by omega) (by omega) (fun A7 c7 hA1 hA2 => ?_))
      rw [← bv_append]
      (repeat (first | (refine i_dst ?_; ((refine i_assign ?_; refine l_q rfl rfl rfl (q_assign rfl) ?_))) | refine l_nil ?_ | (refine i_q ?_; (refine d_then ?_)) | refine c_ret ?_))
      exact t_hp (hp' := [bytesA (.slice A7 (1 + s + 4 + n) c7) (((code : Int) :: (asI a0 a1 a2 a3 a4).take s) ++ be4 w32 ++ b)]) (fun w h => (h.see (i := 0) (Y := bytesA (.slice A7 (1 + s + 4 + n) c7) (((code : Int) :: (asI a0 a1 a2 a3 a4).take s) ++ be4 w32 ++ b)) rfl (fun h => bytesA_of hkl hoe h) (fun b hb => bytesA_rowS b hb)).psub (by first | ((repeat (first | exact PSub.nil | exact Ext.head | apply Ext.tail | apply PSub.cons)); done) | fail)) (t_ret2 Try.results32 rfl rfl (.inr ⟨s, true, m, A7, c7, hfit, by rw [hek, hkl], by rw [hek, hkl]⟩))
    | false =>
      have hek : encC code a0 a1 a2 a3 a4 w32 b s false = ((code : Int) :: (asI a0 a1 a2 a3 a4).take s) ++ b := by rw [encC, if_neg (by simp), List.append_nil]
      have hkl : (((code : Int) :: (asI a0 a1 a2 a3 a4).take s) ++ b).length = 1 + s + n := by rw [List.length_append, h1l, hbl]
      have hoe : Oct (((code : Int) :: (asI a0 a1 a2 a3 a4).take s) ++ b) := h1o.append hbo
      (repeat (first | (refine i_dst ?_; (first | (refine i_move ?_; refine l_q rfl rfl rfl (q_move rfl) ?_) | (refine i_load ?_; refine l_q rfl rfl rfl (by ((exact q_ld1 tab rfl rfl rfl (by first | ((repeat (first | exact List.Mem.head _ | apply List.Mem.tail)); done) | fail) (by (rfl))))) ?_) | (refine l_q rfl rfl rfl (by ((apply iq_fld; (exact q_fieldAddr tab rfl rfl rfl rfl rfl rfl rfl)))) ?_))) | refine d_seq ?_ | refine c_region ?_ | refine l_nil ?_ | (refine i_q ?_; (refine d_then ?_)) | refine c_skip ?_ | (refine i_cond ?_; (refine c_cf rfl (by (rfl)) ?_))))
      (refine l_app tab rfl rfl rfl rowB (by first | ((repeat (first | exact Ext.head | apply Ext.tail)); done) | fail) (news := bv b) (fun w h => by rw [Nat.mul_one]; exact roB_src (h.ro hr)) (bv_one _) (by omega) (by omega) (fun A7 c7 hA1 hA2 => ?_))
      rw [← bv_append]
      (repeat (first | (refine i_dst ?_; ((refine i_assign ?_; refine l_q rfl rfl rfl (q_assign rfl) ?_))) | refine l_nil ?_ | (refine i_q ?_; (refine d_then ?_)) | refine c_ret ?_))
      exact t_hp (hp' := [bytesA (.slice A7 (1 + s + n) c7) (((code : Int) :: (asI a0 a1 a2 a3 a4).take s) ++ b)]) (fun w h => (h.see (i := 0) (Y := bytesA (.slice A7 (1 + s + n) c7) (((code : Int) :: (asI a0 a1 a2 a3 a4).take s) ++ b)) rfl (fun h => bytesA_of hkl hoe h) (fun b hb => bytesA_rowS b hb)).psub (by first | ((repeat (first | exact PSub.nil | exact Ext.head | apply Ext.tail | apply PSub.cons)); done) | fail)) (t_ret2 Try.results32 rfl rfl (.inr ⟨s, false, m, A7, c7, hfit, by rw [hek, hkl], by rw [hek, hkl]⟩))
end Go.Proofs.Ytboccjdncdaakaa

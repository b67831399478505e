/-
  Layer 12: sorting by insertion, walked.
-/
import Derived.Test.YtkeekkdaielipaaU2
set_option linter.unusedVariables false
set_option maxRecDepth 100000
namespace Go.Proofs.Ytkeekkdaielipaa
open Go.RowKit
attribute [local irreducible] TL TC TQ TK TO Qt TA

attribute [local irreducible] blk row bytesA starL memA segA roB


set_option maxHeartbeats 8000000 in
theorem insertion_spec {b5 : Nat} {A : Option Addr} {n c : Nat} {ls : List ListI} {w : World} {D : Option Addr} {m cap : Nat} {xs : List Nat} (hA : Hold [row 3 1 (.slice D m cap) m (iv xs)] w) (hb : Ro (fps [row 3 1 (.slice D m cap) m (iv xs)]) w (blk b5 [.slice A n c] 35)) (hls : InS (fps [row 3 1 (.slice D m cap) m (iv xs)]) w 8 (InList (fps [row 3 1 (.slice D m cap) m (iv xs)]) w) A n ls) (hx : ∀ x ∈ xs, x < n) (hm : xs.length = m) (hm4 : m ≤ 1000) :
    Calls Try.prog 66 #[.slice D m cap, .int .i64 0, .int .i64 m, .func (.func 53) #[] #[.pointer (some ⟨b5, 0, none⟩)]] w (Ret w [row 3 1 (.slice D m cap) m (iv xs)] fun v B => B = [row 3 1 (.slice D m cap) m (iv (sortM (priM ls) xs))]) := by
  refine enter (vs := [.slice D m cap, .int .i64 0, .int .i64 m, .func (.func 53) #[] #[.pointer (some ⟨b5, 0, none⟩)]]) Try.func66 rfl Try.ntmps66 rfl hA ?_
  generalize hS : fps [row 3 1 (.slice D m cap) m (iv xs)] = S0 at *
  by_cases hm1 : m ≤ 1
  · have e1 : sortM (priM ls) xs = xs := by
      rcases xs with _ | ⟨x, _ | ⟨y, xs⟩⟩
      · rfl
      · rfl
      · simp at hm; omega
    (repeat (first | (refine i_dst ?_; (first | (refine i_move ?_; refine l_q rfl rfl rfl (q_move rfl) ?_) | (refine i_assign ?_; refine l_q rfl rfl rfl (q_assign rfl) ?_) | (refine i_bin ?_; refine l_q rfl rfl rfl (by (exact q_add rfl rfl (by (exact wr_i64 (by omega))))) ?_))) | refine d_seq ?_ | refine c_region ?_ | refine l_nil ?_ | refine c_block ?_ | (refine i_q ?_; (refine d_then ?_))))
    refine d_loop (T := Nat) [0, 1, 2, 3] (fun i => [(8, .int .i64 1)]) [row 3 1 (.slice D m cap) m (iv xs)] (fun _ => []) (fun i => True) (fun _ => 0) 0 (by first | ((repeat (first | exact Pick.nil | exact rfl | apply Pick.cons)); done) | fail) trivial (by first | ((repeat (first | exact trivial | exact rfl | apply Sub.cons | exact look_int rfl (by omega) | exact look_int rfl (by simp) | exact look_int rfl (by simp; omega))); done) | fail) (fun w h => h) ?_
    intro i _
    (repeat (first | (refine i_dst ?_; (first | (refine i_move ?_; refine l_q rfl rfl rfl (q_move rfl) ?_) | (refine i_bin ?_; refine l_q rfl rfl rfl (by (exact q_lss rfl rfl)) ?_))) | refine d_seq ?_ | refine c_region ?_ | refine l_nil ?_ | (refine i_q ?_; (first | refine d_then ?_ | refine d_then_exit ?_ | refine t_then_exit ?_ | refine t_block_eq rfl ?_)) | refine c_exit ?_ | (refine i_cond ?_; (refine c_cf rfl (by (exact decide_eq_false (by omega))) ?_))))
    subst hS
    exact t_end0 Try.results66 (by rw [e1]; rfl)
  · refine c_ex (fun w h => row_open (by omega) h) ?_
    rintro ⟨g, junk⟩ ⟨rfl, hg1, hg2, hg3⟩
    dsimp only at hg3 ⊢
    have hjl : m + junk.length = cap := by rw [List.length_append, length_iv, hm, Nat.mul_one] at hg3; exact hg3
    (repeat (first | (refine i_dst ?_; (first | (refine i_move ?_; refine l_q rfl rfl rfl (q_move rfl) ?_) | (refine i_assign ?_; refine l_q rfl rfl rfl (q_assign rfl) ?_) | (refine i_bin ?_; refine l_q rfl rfl rfl (by (exact q_add rfl rfl (by (exact wr_i64 (by omega))))) ?_))) | refine d_seq ?_ | refine c_region ?_ | refine l_nil ?_ | refine c_block ?_ | (refine i_q ?_; (refine d_then ?_))))
    refine d_loop (T := Nat) [0, 1, 2, 3] (fun i => [(8, .int .i64 i)]) [] (fun i => [blk g (iv (sortM (priM ls) (xs.take i) ++ xs.drop i) ++ junk) 3]) (fun i => 1 ≤ i ∧ i ≤ m) (fun i => m - i) 1 (by first | ((repeat (first | exact Pick.nil | exact rfl | apply Pick.cons)); done) | fail) ⟨Nat.le_refl _, by omega⟩ (by first | ((repeat (first | exact trivial | exact rfl | apply Sub.cons | exact look_int rfl (by omega) | exact look_int rfl (by simp) | exact look_int rfl (by simp; omega))); done) | fail) (fun w h => ?_) ?_
    · have e1 : sortM (priM ls) (xs.take 1) ++ xs.drop 1 = xs := by
        rcases xs with _ | ⟨x, xs⟩
        · rfl
        · rfl
      rw [e1]
      exact h
    rintro i ⟨hi1, hi2⟩
    by_cases hlt : i < m
    · obtain ⟨x, hxi⟩ : ∃ x, xs[i]? = some x := ⟨_, List.getElem?_eq_getElem (by omega)⟩
      have hil := (List.getElem?_eq_some_iff.1 hxi).1
      have hxn := hx x (List.mem_of_getElem? hxi)
      obtain ⟨L, hL⟩ : ∃ L, L = sortM (priM ls) (xs.take i) := ⟨_, rfl⟩
      have hLl : L.length = i := by rw [hL, length_sortM, List.length_take]; omega
      have hLn : ∀ y ∈ L, y < n := fun y hy => hx y (List.mem_of_mem_take ((mem_sortM _).1 (by rw [hL] at hy; exact hy)))
      have hdrop : xs.drop i = x :: xs.drop (i + 1) := by
        rw [List.drop_eq_getElem_cons hil]
        congr 1
        rw [List.getElem?_eq_getElem hil] at hxi
        injection hxi
      have hnext : sortM (priM ls) (xs.take (i + 1)) = insR (priM ls) x L := by
        rw [List.take_add_one, hxi, hL]
        exact sortM_snoc _ _ _
      rw [← hL, hdrop]
      (repeat (first | (refine i_dst ?_; (first | (refine i_move ?_; refine l_q rfl rfl rfl (q_move rfl) ?_) | (refine i_assign ?_; refine l_q rfl rfl rfl (q_assign rfl) ?_) | (refine i_bin ?_; refine l_q rfl rfl rfl (by (exact q_lss rfl rfl)) ?_))) | refine d_seq ?_ | refine c_region ?_ | refine l_nil ?_ | refine c_block ?_ | (refine i_q ?_; (refine d_then ?_)) | refine c_skip ?_ | (refine i_cond ?_; (refine c_ct rfl (by (exact decide_eq_true (by omega))) ?_))))
      refine d_loop (T := List Nat × List Nat) [0, 1, 2, 3, 8] (fun t => [(9, .int .i64 t.1.length)]) [] (fun t => [blk g (iv (t.1 ++ x :: (t.2 ++ xs.drop (i + 1))) ++ junk) 3]) (fun t => t.1 ++ t.2 = L ∧ ∀ y ∈ t.2, priM ls y < priM ls x) (fun t => t.1.length) (L, []) (by first | ((repeat (first | exact Pick.nil | exact rfl | apply Pick.cons)); done) | fail) ⟨List.append_nil _, fun y h => by cases h⟩ ?_ (fun w h => h) ?_
      · dsimp only
        rw [hLl]
        exact (by first | ((repeat (first | exact trivial | exact rfl | apply Sub.cons | exact look_int rfl (by omega) | exact look_int rfl (by simp) | exact look_int rfl (by simp; omega))); done) | fail)
      rintro ⟨L1, L2⟩ ⟨hLL, hL2⟩
      dsimp only at hLL hL2 ⊢
      have hL12 : L1.length + L2.length = i := by rw [← hLl, ← hLL, List.length_append]
      rcases snoc_cases L1 with rfl | ⟨L1', y, rfl⟩
      · have hin : insR (priM ls) x L = x :: L2 := by rw [← hLL]; exact insR_all hL2
        dsimp only [List.length_nil, List.nil_append]
        (repeat (refine d_seq ?_))
        (refine a_begin mixed _ 17 rfl (fun w h => h) ?_)
        ((refine a_q 0 rfl rfl rfl rfl rfl (by decide +kernel) (q_move rfl) ?_; refine a_q 1 rfl rfl rfl rfl rfl (by decide +kernel) (q_move rfl) ?_; refine a_q 2 rfl rfl rfl rfl rfl (by decide +kernel) (by (exact q_gtr rfl rfl)) ?_; refine a_q 3 rfl rfl rfl rfl rfl (by decide +kernel) (q_move rfl) ?_; (refine a_gf 4 rfl rfl rfl rfl rfl rfl rfl rfl (by decide +kernel) ?_); (refine a_gf 5 rfl rfl rfl rfl rfl rfl rfl rfl (by decide +kernel) ?_); (refine a_gf 6 rfl rfl rfl rfl rfl rfl rfl rfl (by decide +kernel) ?_); (refine a_gf 7 rfl rfl rfl rfl rfl rfl rfl rfl (by decide +kernel) ?_); (refine a_gf 8 rfl rfl rfl rfl rfl rfl rfl rfl (by decide +kernel) ?_); (refine a_gf 9 rfl rfl rfl rfl rfl rfl rfl rfl (by decide +kernel) ?_); (refine a_gf 10 rfl rfl rfl rfl rfl rfl rfl rfl (by decide +kernel) ?_); (refine a_gf 11 rfl rfl rfl rfl rfl rfl rfl rfl (by decide +kernel) ?_); (refine a_gf 12 rfl rfl rfl rfl rfl rfl rfl rfl (by decide +kernel) ?_); (refine a_gf 13 rfl rfl rfl rfl rfl rfl rfl rfl (by decide +kernel) ?_)))
        refine a_gf 14 rfl rfl rfl rfl rfl rfl rfl rfl (by decide +kernel) ?_
        (((refine a_gf 15 rfl rfl rfl rfl rfl rfl rfl rfl (by decide +kernel) ?_); refine a_q 16 rfl rfl rfl rfl rfl (by decide +kernel) (by (exact q_pick_f rfl rfl)) ?_))
        refine a_done (by decide +kernel) ?_
        (repeat (first | (refine i_dst ?_; (first | (refine i_move ?_; refine l_q rfl rfl rfl (q_move rfl) ?_) | (refine i_assign ?_; refine l_q rfl rfl rfl (q_assign rfl) ?_) | (refine i_bin ?_; refine l_q rfl rfl rfl (by (exact q_add rfl rfl (by (exact wr_i64 (by omega))))) ?_))) | refine c_region ?_ | refine l_nil ?_ | (refine i_q ?_; (first | refine d_then ?_ | refine t_then ?_ | refine d_then_exit ?_ | refine t_then_exit ?_ | refine t_block ?_ | refine t_block_eq rfl ?_)) | refine c_exit ?_ | (refine i_cond ?_; (refine c_cf rfl (by (rfl)) ?_))))
        exact k_again (i + 1) (by omega) (by omega) (by first | ((repeat (first | exact trivial | exact rfl | apply Sub.cons | exact look_int rfl (by omega) | exact look_int rfl (by simp) | exact look_int rfl (by simp; omega))); done) | fail) (fun w h => by rw [hnext, hin]; exact h)
      · obtain ⟨k, hk⟩ : ∃ k, k = L1'.length := ⟨_, rfl⟩
        have hj : (L1' ++ [y]).length = k + 1 := by rw [List.length_append, hk]; rfl
        have hyn : y < n := hLn y (by rw [← hLL]; simp)
        have hv1 : (iv (L1' ++ [y] ++ x :: (L2 ++ xs.drop (i + 1))) ++ junk)[0 + ((k + 1 : Nat) : Int).toNat]? = some (.int .i64 (x : Int)) := by
          rw [Int.toNat_natCast, Nat.zero_add, List.getElem?_append_left (by simp; omega)]
          refine iv_get ?_
          rw [List.getElem?_append_right (by omega), hj, Nat.sub_self]
          rfl
        have hv2 : (iv (L1' ++ [y] ++ x :: (L2 ++ xs.drop (i + 1))) ++ junk)[0 + (((k + 1 : Nat) : Int) - 1).toNat]? = some (.int .i64 (y : Int)) := by
          rw [show (((k + 1 : Nat) : Int) - 1).toNat = k by omega, Nat.zero_add, List.getElem?_append_left (by simp; omega)]
          refine iv_get ?_
          rw [List.append_assoc, List.getElem?_append_right (by omega), hk, Nat.sub_self]
          rfl
        rw [hj]
        (repeat (refine d_seq ?_))
        (refine a_begin mixed _ 17 rfl (fun w h => h) ?_)
        ((refine a_q 0 rfl rfl rfl rfl rfl (by decide +kernel) (q_move rfl) ?_; refine a_q 1 rfl rfl rfl rfl rfl (by decide +kernel) (q_move rfl) ?_; refine a_q 2 rfl rfl rfl rfl rfl (by decide +kernel) (by (exact q_gtr rfl rfl)) ?_; refine a_q 3 rfl rfl rfl rfl rfl (by decide +kernel) (q_move rfl) ?_; ((refine a_known 21 true rfl (by (((first | (simp; done) | fail)))) ?_; (refine a_gt 4 rfl rfl rfl rfl rfl rfl rfl (by decide +kernel) (q_move rfl) ?_))); (refine a_gt 5 rfl rfl rfl rfl rfl rfl rfl (by decide +kernel) (q_move rfl) ?_); (refine a_gt 6 rfl rfl rfl rfl rfl rfl rfl (by decide +kernel) (q_move rfl) ?_); (refine a_gt 7 rfl rfl rfl rfl rfl rfl rfl (by decide +kernel) (by (exact q_indexAddr1 tab rfl rfl rfl rfl (by omega))) ?_); ((refine a_gt 8 rfl rfl rfl rfl rfl rfl rfl (by decide +kernel) (by ((exact q_ld1 tab rfl rfl rfl (by first | ((repeat (first | exact List.Mem.head _ | apply List.Mem.tail)); done) | fail) (by (assumption))))) ?_)); (refine a_gt 9 rfl rfl rfl rfl rfl rfl rfl (by decide +kernel) (q_move rfl) ?_); (refine a_gt 10 rfl rfl rfl rfl rfl rfl rfl (by decide +kernel) (q_move rfl) ?_); (refine a_gt 11 rfl rfl rfl rfl rfl rfl rfl (by decide +kernel) (by (exact q_sub rfl rfl (by (exact wr_i64 (by omega))))) ?_); (refine a_gt 12 rfl rfl rfl rfl rfl rfl rfl (by decide +kernel) (by (exact q_indexAddr1 tab rfl rfl rfl rfl (by omega))) ?_); ((refine a_gt 13 rfl rfl rfl rfl rfl rfl rfl (by decide +kernel) (by ((exact q_ld1 tab rfl rfl rfl (by first | ((repeat (first | exact List.Mem.head _ | apply List.Mem.tail)); done) | fail) (by (assumption))))) ?_))))
        refine a_eg 14 rfl (by decide +kernel) rfl rfl rfl (fun K hK => e_callv (A := []) rfl rfl rfl Try.func53 rfl (by decide) (fun w h => h) (fun w' h => event1_spec (roOf0 h hb) (hls.to (fun r hr => roOf0 h hr) (fun _ _ hl => hl.to (fun r hr => roOf0 h hr))) x y hxn hyn) (fun v B hv => ?_))
        obtain ⟨rfl, rfl⟩ := hv
        refine hK _ _ (fun w h => h) ?_
        clear hK
        by_cases hlt2 : priM ls y < priM ls x
        · have ec : cmpV (priM ls y) (priM ls x) = -1 := by rw [cmpV, if_pos hlt2]
          rw [ec]
          (((refine a_gt 15 rfl rfl rfl rfl rfl rfl rfl (by decide +kernel) (by (exact q_lss rfl rfl)) ?_); refine a_q 16 rfl rfl rfl rfl rfl (by decide +kernel) (by (exact q_pick_t rfl rfl)) ?_))
          refine a_done (by decide +kernel) ?_
          have ho1 : 0 + ((k + 1 : Nat) : Int).toNat < (iv (L1' ++ [y] ++ x :: (L2 ++ xs.drop (i + 1))) ++ junk).length := by rw [Int.toNat_natCast]; simp; omega
          have ho2 : 0 + (((k + 1 : Nat) : Int) - 1).toNat < ((iv (L1' ++ [y] ++ x :: (L2 ++ xs.drop (i + 1))) ++ junk).set (0 + ((k + 1 : Nat) : Int).toNat) (.int .i64 (y : Int))).length := by rw [List.length_set, show (((k + 1 : Nat) : Int) - 1).toNat = k by omega]; simp; omega
          (repeat (first | refine d_seq ?_ | refine c_block ?_ | (refine i_q ?_; (refine d_then ?_)) | refine c_skip ?_ | (refine i_cond ?_; (refine c_ct rfl (by (rfl)) ?_))))
          (refine a_beginE mixed [blk g (iv (L1' ++ [y] ++ x :: (L2 ++ xs.drop (i + 1))) ++ junk) 3] [] 18 15 rfl (fun w h => h.subl (by first | ((repeat (first | exact SubL.nil | apply SubL.keep | apply SubL.skip)); done) | fail)) (fun w h => h.subl (by first | ((repeat (first | exact SubL.nil | apply SubL.keep | apply SubL.skip)); done) | fail)) ?_)
          ((refine a_q 0 rfl rfl rfl rfl rfl (by decide +kernel) (q_move rfl) ?_; refine a_q 1 rfl rfl rfl rfl rfl (by decide +kernel) (q_move rfl) ?_; refine a_q 2 rfl rfl rfl rfl rfl (by decide +kernel) (q_move rfl) ?_; refine a_q 3 rfl rfl rfl rfl rfl (by decide +kernel) (q_move rfl) ?_; refine a_q 4 rfl rfl rfl rfl rfl (by decide +kernel) (by (exact q_sub rfl rfl (by (exact wr_i64 (by omega))))) ?_; refine a_q 5 rfl rfl rfl rfl rfl (by decide +kernel) (q_move rfl) ?_; refine a_q 6 rfl rfl rfl rfl rfl (by decide +kernel) (q_move rfl) ?_; refine a_q 7 rfl rfl rfl rfl rfl (by decide +kernel) (by (exact q_sub rfl rfl (by (exact wr_i64 (by omega))))) ?_; refine a_q 8 rfl rfl rfl rfl rfl (by decide +kernel) (by (exact q_indexAddr1 tab rfl rfl rfl rfl (by omega))) ?_; ((refine a_y 9 rfl rfl rfl rfl rfl (by decide +kernel) (by ((exact q_ld1 tab rfl rfl rfl (by first | ((repeat (first | exact List.Mem.head _ | apply List.Mem.tail)); done) | fail) (by (assumption))))) ?_)); refine a_q 10 rfl rfl rfl rfl rfl (by decide +kernel) (q_move rfl) ?_; refine a_q 11 rfl rfl rfl rfl rfl (by decide +kernel) (q_move rfl) ?_; refine a_q 12 rfl rfl rfl rfl rfl (by decide +kernel) (by (exact q_indexAddr1 tab rfl rfl rfl rfl (by omega))) ?_; ((refine a_y 13 rfl rfl rfl rfl rfl (by decide +kernel) (by ((exact q_ld1 tab rfl rfl rfl (by first | ((repeat (first | exact List.Mem.head _ | apply List.Mem.tail)); done) | fail) (by (assumption))))) ?_)); refine a_q 14 rfl rfl rfl rfl rfl (by decide +kernel) (by (exact q_indexAddr1 tab rfl rfl rfl rfl (by omega))) ?_))
          refine a_e 15 rfl (by decide +kernel) rfl (fun K hK => e_setI tab rfl rfl rfl rfl (by first | ((repeat (first | exact Upd.head | apply Upd.tail)); done) | fail) ho1 (hK _ _ (fun w h => h.subl (by first | ((repeat (first | exact SubL.nil | apply SubL.keep | apply SubL.skip)); done) | fail)) ?_))
          clear hK
          ((refine a_q 16 rfl rfl rfl rfl rfl (by decide +kernel) (by (exact q_indexAddr1 tab rfl rfl rfl rfl (by omega))) ?_))
          refine a_e 17 rfl (by decide +kernel) rfl (fun K hK => e_setI tab rfl rfl rfl rfl (by first | ((repeat (first | exact Upd.head | apply Upd.tail)); done) | fail) ho2 (hK _ _ (fun w h => h.subl (by first | ((repeat (first | exact SubL.nil | apply SubL.keep | apply SubL.skip)); done) | fail)) ?_))
          clear hK
          refine a_done (by decide +kernel) ?_
          (repeat (first | (refine i_dst ?_; (first | (refine i_move ?_; refine l_q rfl rfl rfl (q_move rfl) ?_) | (refine i_assign ?_; refine l_q rfl rfl rfl (q_assign rfl) ?_) | (refine i_bin ?_; refine l_q rfl rfl rfl (by (exact q_sub rfl rfl (by (exact wr_i64 (by omega))))) ?_))) | refine c_region ?_ | refine l_nil ?_ | (refine i_q ?_; (first | refine d_then ?_ | refine t_then ?_ | refine t_block ?_))))
          refine k_again (L1', y :: L2) ⟨by dsimp only; rw [← hLL]; simp, fun z hz => ?_⟩ (by dsimp only; omega) ?_ (fun w h => ?_)
          · dsimp only at hz
            rw [List.mem_cons] at hz
            rcases hz with rfl | hz
            · exact hlt2
            · exact hL2 z hz
          · dsimp only
            rw [← hk]
            exact (by first | ((repeat (first | exact trivial | exact rfl | apply Sub.cons | exact look_int rfl (by omega) | exact look_int rfl (by simp) | exact look_int rfl (by simp; omega))); done) | fail)
          · dsimp only
            have e9 : ((iv (L1' ++ [y] ++ x :: (L2 ++ xs.drop (i + 1))) ++ junk).set (0 + ((k + 1 : Nat) : Int).toNat) (.int .i64 (y : Int))).set (0 + (((k + 1 : Nat) : Int) - 1).toNat) (.int .i64 (x : Int)) = iv (L1' ++ x :: (y :: L2 ++ xs.drop (i + 1))) ++ junk := by
              rw [show (((k + 1 : Nat) : Int) - 1).toNat = k by omega, Int.toNat_natCast, Nat.zero_add, Nat.zero_add]
              have q : (iv (L1' ++ [y] ++ x :: (L2 ++ xs.drop (i + 1)))) = iv L1' ++ (.int .i64 (y : Int)) :: (.int .i64 (x : Int)) :: iv (L2 ++ xs.drop (i + 1)) := by simp [iv]
              rw [q, List.append_assoc, List.set_append_right _ _ (by rw [length_iv]; omega), List.set_append_right _ _ (by rw [length_iv]; omega), length_iv, hk, Nat.sub_self, Nat.add_sub_cancel_left]
              simp [iv]
            rw [e9] at h
            exact h
        · have ec : 0 ≤ cmpV (priM ls y) (priM ls x) := by rw [cmpV, if_neg hlt2]; split <;> omega
          generalize cmpV (priM ls y) (priM ls x) = cv at ec ⊢
          (((refine a_gt 15 rfl rfl rfl rfl rfl rfl rfl (by decide +kernel) (by (exact q_lss rfl rfl)) ?_); refine a_q 16 rfl rfl rfl rfl rfl (by decide +kernel) (by (exact q_pick_t rfl rfl)) ?_))
          refine a_done (by decide +kernel) ?_
          (repeat (first | (refine i_dst ?_; (first | (refine i_move ?_; refine l_q rfl rfl rfl (q_move rfl) ?_) | (refine i_assign ?_; refine l_q rfl rfl rfl (q_assign rfl) ?_) | (refine i_bin ?_; refine l_q rfl rfl rfl (by (exact q_add rfl rfl (by (exact wr_i64 (by omega))))) ?_))) | refine c_region ?_ | refine l_nil ?_ | (refine i_q ?_; (first | refine d_then ?_ | refine t_then ?_ | refine d_then_exit ?_ | refine t_then_exit ?_ | refine t_block ?_ | refine t_block_eq rfl ?_)) | refine c_exit ?_ | (refine i_cond ?_; (refine c_cf rfl (by (exact decide_eq_false (by omega))) ?_))))
          have hin : insR (priM ls) x L = L1' ++ [y] ++ x :: L2 := by rw [← hLL]; exact insR_at hL2 hlt2
          exact k_again (i + 1) (by omega) (by omega) (by first | ((repeat (first | exact trivial | exact rfl | apply Sub.cons | exact look_int rfl (by omega) | exact look_int rfl (by simp) | exact look_int rfl (by simp; omega))); done) | fail) (fun w h => by
            rw [hnext, hin, List.append_assoc (L1' ++ [y])]
            exact h)
    · obtain rfl : i = m := by omega
      (repeat (first | (refine i_dst ?_; (first | (refine i_move ?_; refine l_q rfl rfl rfl (q_move rfl) ?_) | (refine i_bin ?_; refine l_q rfl rfl rfl (by (exact q_lss rfl rfl)) ?_))) | refine d_seq ?_ | refine c_region ?_ | refine l_nil ?_ | (refine i_q ?_; (first | refine d_then ?_ | refine d_then_exit ?_ | refine t_then_exit ?_ | refine t_block_eq rfl ?_)) | refine c_exit ?_ | (refine i_cond ?_; ((refine c_cf rfl (by (((first | (simp; done) | fail)))) ?_)))))
      subst hS
      refine t_hp (hp' := [row 3 1 (.slice (some ⟨g, 0, none⟩) i cap) i (iv (sortM (priM ls) xs))]) (fun w h => ?_) (t_end0 Try.results66 rfl)
      have e9 : sortM (priM ls) (xs.take i) ++ xs.drop i = sortM (priM ls) xs := by rw [List.take_of_length_le (by omega), List.drop_of_length_le (by omega), List.append_nil]
      rw [e9] at h
      exact row_shut (junk := junk) hg1 hg2 (by rw [length_iv, length_sortM, hm, Nat.mul_one]) (by rw [List.length_append, length_iv, length_sortM, hm, Nat.mul_one]; exact hjl) h
end Go.Proofs.Ytkeekkdaielipaa

/-
  Layer 12, the statements' helpers: ints, shown, walked.
-/
import Derived.Test.YtkeekkdaielipaaU5
set_option linter.unusedVariables false
set_option maxRecDepth 100000
namespace Go.Proofs.Ytkeekkdaielipaa
open Go.RowKit
attribute [local irreducible] TL TC TQ TK TO Qt TA

theorem Ro.rowI {S : Nat → Prop} {w0 : World} {n c : Nat} {A : Option Addr} {xs : List Value} (h : Ro S w0 (row 3 1 (.slice A n c) n xs)) : Ro S w0 (roV A n xs) := h.rowV1
theorem Ro.blkV {S : Nat → Prop} {w0 : World} {b n : Nat} {l : List Value} {t : TypeId} (h : Ro S w0 (blk b l t)) (hl : l.length = n) : Ro S w0 (roV (some ⟨b, 0, none⟩) n l) := h.sub (fun h => roV_blk h hl) (fun x ⟨_, o, hx⟩ => by
  injection hx with hx
  injection hx with hx
  exact hx.symm)
/-- A list without tables. -/
def bareL (ev pre pri : Nat) (on : Bool) : ListI := ⟨0, [], false, ev, pre, pri, on, false⟩
def bareC (ev pre pri : Nat) (on : Bool) : List Value := [.int .i64 0, .slice none 0 0, .bool false, .int .u8 ev, .int .u8 pre, .int .u8 pri, .bool on, .bool false]
theorem bare_in {S : Nat → Prop} {w0 : World} {ev pre pri : Nat} {on : Bool} (h1 : ev ≤ 255) (h2 : pre ≤ 255) (h3 : pri ≤ 255) : InList S w0 (bareC ev pre pri on) (bareL ev pre pri on) :=
  ⟨⟨none, 0, 0, rfl, InS.nil _, Nat.le_refl _, Nat.zero_le _⟩, by simp [bareL], h1, h2, h3⟩
theorem ins_one {S : Nat → Prop} {w0 : World} {b : Nat} {r : List Value} {l : ListI} (hr : r.length = 8) (h1 : Ro S w0 (blk b r 42)) (h2 : InList S w0 r l) : InS S w0 8 (InList S w0) (some ⟨b, 0, none⟩) 1 [l] :=
  InS.blk (xs := [l]) (rows := [r]) (by simpa using h1) rfl (by simpa using hr) (fun i r' x hr hx => by
    obtain rfl : i = 0 := by
      have := (List.getElem?_eq_some_iff.1 hr).1
      rw [List.length_singleton] at this
      omega
    obtain rfl : r = r' := by simpa using hr
    obtain rfl : l = x := by simpa using hx
    exact h2)
theorem ins_two {S : Nat → Prop} {w0 : World} {b : Nat} {r r' : List Value} {l l' : ListI} (hr : r.length = 8) (hr' : r'.length = 8) (h1 : Ro S w0 (blk b (r ++ r') 42)) (h2 : InList S w0 r l) (h3 : InList S w0 r' l') : InS S w0 8 (InList S w0) (some ⟨b, 0, none⟩) 2 [l, l'] :=
  InS.blk (xs := [l, l']) (rows := [r, r']) (by simpa using h1) rfl (fun q hq => by simp at hq; rcases hq with rfl | rfl <;> assumption) (fun i q x hr hx => by
    rcases (by have := (List.getElem?_eq_some_iff.1 hr).1; simp at this; omega : i = 0 ∨ i = 1) with rfl | rfl
    · obtain rfl : r = q := by simpa using hr
      obtain rfl : l = x := by simpa using hx
      exact h2
    · obtain rfl : r' = q := by simpa using hr
      obtain rfl : l' = x := by simpa using hx
      exact h3)
attribute [local irreducible] blk row bytesA starL memA segA roB

attribute [local irreducible] fireA

set_option maxHeartbeats 4000000 in
theorem ints_spec {A B : Option Addr} {n c m d : Nat} {xs ys : List Nat} {w : World} (hx : Ro (fps []) w (roV A n (iv xs))) (hy : Ro (fps []) w (roV B m (iv ys))) (hn : n ≤ 1000000) :
    Calls Try.prog 29 #[.slice A n c, .slice B m d] w (Ret w [] fun v B => v = .bool (decide (xs = ys)) ∧ B = []) := by
  have hxl : xs.length = n := by have := hx.is.1; rwa [length_iv] at this
  have hyl : ys.length = m := by have := hy.is.1; rwa [length_iv] at this
  refine enter (vs := [.slice A n c, .slice B m d]) Try.func29 rfl Try.ntmps29 rfl (Hold.nil w) ?_
  by_cases hnm : n = m
  · subst hnm
    (repeat (first | (refine i_dst ?_; (first | (refine i_move ?_; refine l_q rfl rfl rfl (q_move rfl) ?_) | (refine i_assign ?_; refine l_q rfl rfl rfl (q_assign rfl) ?_) | (refine i_bin ?_; refine l_q rfl rfl rfl (by (exact q_neq rfl rfl)) ?_) | (refine i_blt ?_; refine l_q rfl rfl rfl (by (exact q_len tab rfl rfl)) ?_))) | refine d_seq ?_ | refine c_region ?_ | refine l_nil ?_ | refine c_block ?_ | (refine i_q ?_; (refine d_then ?_)) | refine c_skip ?_ | (refine i_cond ?_; ((refine c_cf rfl (by (((first | (simp; done) | fail)))) ?_)))))
    refine d_loop (T := Nat) [0, 1, 12] (fun i => [(13, .int .i64 i)]) [] (fun _ => []) (fun i => i ≤ n ∧ xs.take i = ys.take i) (fun i => n - i) 0 (by first | ((repeat (first | exact Pick.nil | exact rfl | apply Pick.cons)); done) | fail) ⟨Nat.zero_le _, rfl⟩ (by first | ((repeat (first | exact trivial | exact rfl | apply Sub.cons | exact look_int rfl (by omega) | exact look_int rfl (by simp) | exact look_int rfl (by simp; omega))); done) | fail) (fun w h => h) ?_
    rintro i ⟨hi, he⟩
    by_cases hlt : i < n
    · obtain ⟨x, hxi⟩ : ∃ x, xs[i]? = some x := ⟨_, List.getElem?_eq_getElem (by omega)⟩
      obtain ⟨y, hyi⟩ : ∃ y, ys[i]? = some y := ⟨_, List.getElem?_eq_getElem (by omega)⟩
      have hxv := iv_get hxi
      have hyv := iv_get hyi
      by_cases hxy : x = y
      · subst hxy
        (repeat (first | (refine i_dst ?_; (first | (refine i_move ?_; refine l_q rfl rfl rfl (q_move rfl) ?_) | (refine i_assign ?_; refine l_q rfl rfl rfl (q_assign rfl) ?_) | (refine i_bin ?_; refine l_q rfl rfl rfl (by (exact q_lss rfl rfl)) ?_))) | refine d_seq ?_ | refine c_region ?_ | refine l_nil ?_ | refine c_block ?_ | (refine i_q ?_; (refine d_then ?_)) | refine c_skip ?_ | (refine i_cond ?_; (refine c_ct rfl (by (exact decide_eq_true (by omega))) ?_))))
        (refine a_begin mixed _ 9 rfl (fun w h => h) ?_)
        ((refine a_q 0 rfl rfl rfl rfl rfl (by decide +kernel) (q_move rfl) ?_; refine a_q 1 rfl rfl rfl rfl rfl (by decide +kernel) (q_move rfl) ?_; refine a_q 2 rfl rfl rfl rfl rfl (by decide +kernel) (by (exact q_ixS1 tab rfl rfl rfl rfl (by (exact fun w h => roV_src (h.ro (by assumption)))) (by first | (with_reducible exact Int.toNat_natCast _) | (with_reducible exact Int.toNat_zero) | (with_reducible exact Int.toNat_one) | rfl) (by (omega)) (by (omega)))) ?_; (refine a_q 3 rfl rfl rfl rfl rfl (by decide +kernel) (by (exact q_ldS tab rfl rfl rfl (by (exact fun w h => roV_src (h.ro (by assumption)))) (by (assumption)))) ?_); refine a_q 4 rfl rfl rfl rfl rfl (by decide +kernel) (q_move rfl) ?_; refine a_q 5 rfl rfl rfl rfl rfl (by decide +kernel) (q_move rfl) ?_; refine a_q 6 rfl rfl rfl rfl rfl (by decide +kernel) (by (exact q_ixS1 tab rfl rfl rfl rfl (by (exact fun w h => roV_src (h.ro (by assumption)))) (by first | (with_reducible exact Int.toNat_natCast _) | (with_reducible exact Int.toNat_zero) | (with_reducible exact Int.toNat_one) | rfl) (by (omega)) (by (omega)))) ?_; (refine a_q 7 rfl rfl rfl rfl rfl (by decide +kernel) (by (exact q_ldS tab rfl rfl rfl (by (exact fun w h => roV_src (h.ro (by assumption)))) (by (assumption)))) ?_); refine a_q 8 rfl rfl rfl rfl rfl (by decide +kernel) (by (exact q_neq rfl rfl)) ?_))
        refine a_done (by decide +kernel) ?_
        (repeat (first | (refine i_dst ?_; (first | (refine i_move ?_; refine l_q rfl rfl rfl (q_move rfl) ?_) | (refine i_bin ?_; refine l_q rfl rfl rfl (by (exact q_add rfl rfl (by (exact wr_i64 (by omega))))) ?_))) | refine c_region ?_ | refine l_nil ?_ | (refine i_q ?_; (first | refine d_then ?_ | refine t_then ?_ | refine t_block ?_)) | refine c_skip ?_ | (refine i_cond ?_; ((refine c_cf rfl (by (((first | (simp; done) | fail)))) ?_)))))
        exact k_again (i + 1) ⟨by omega, by rw [List.take_add_one, List.take_add_one, hxi, hyi, he]⟩ (by omega) (by first | ((repeat (first | exact trivial | exact rfl | apply Sub.cons | exact look_int rfl (by omega) | exact look_int rfl (by simp) | exact look_int rfl (by simp; omega))); done) | fail) (fun w h => h)
      · have hne : ¬ xs = ys := fun e => by subst e; rw [hxi] at hyi; injection hyi with hyi; exact hxy hyi
        (repeat (first | (refine i_dst ?_; (first | (refine i_move ?_; refine l_q rfl rfl rfl (q_move rfl) ?_) | (refine i_assign ?_; refine l_q rfl rfl rfl (q_assign rfl) ?_) | (refine i_bin ?_; refine l_q rfl rfl rfl (by (exact q_lss rfl rfl)) ?_))) | refine d_seq ?_ | refine c_region ?_ | refine l_nil ?_ | refine c_block ?_ | (refine i_q ?_; (refine d_then ?_)) | refine c_skip ?_ | (refine i_cond ?_; (refine c_ct rfl (by (exact decide_eq_true (by omega))) ?_))))
        (refine a_begin mixed _ 9 rfl (fun w h => h) ?_)
        ((refine a_q 0 rfl rfl rfl rfl rfl (by decide +kernel) (q_move rfl) ?_; refine a_q 1 rfl rfl rfl rfl rfl (by decide +kernel) (q_move rfl) ?_; refine a_q 2 rfl rfl rfl rfl rfl (by decide +kernel) (by (exact q_ixS1 tab rfl rfl rfl rfl (by (exact fun w h => roV_src (h.ro (by assumption)))) (by first | (with_reducible exact Int.toNat_natCast _) | (with_reducible exact Int.toNat_zero) | (with_reducible exact Int.toNat_one) | rfl) (by (omega)) (by (omega)))) ?_; (refine a_q 3 rfl rfl rfl rfl rfl (by decide +kernel) (by (exact q_ldS tab rfl rfl rfl (by (exact fun w h => roV_src (h.ro (by assumption)))) (by (assumption)))) ?_); refine a_q 4 rfl rfl rfl rfl rfl (by decide +kernel) (q_move rfl) ?_; refine a_q 5 rfl rfl rfl rfl rfl (by decide +kernel) (q_move rfl) ?_; refine a_q 6 rfl rfl rfl rfl rfl (by decide +kernel) (by (exact q_ixS1 tab rfl rfl rfl rfl (by (exact fun w h => roV_src (h.ro (by assumption)))) (by first | (with_reducible exact Int.toNat_natCast _) | (with_reducible exact Int.toNat_zero) | (with_reducible exact Int.toNat_one) | rfl) (by (omega)) (by (omega)))) ?_; (refine a_q 7 rfl rfl rfl rfl rfl (by decide +kernel) (by (exact q_ldS tab rfl rfl rfl (by (exact fun w h => roV_src (h.ro (by assumption)))) (by (assumption)))) ?_); refine a_q 8 rfl rfl rfl rfl rfl (by decide +kernel) (by (exact q_neq rfl rfl)) ?_))
        refine a_done (by decide +kernel) ?_
        (repeat (first | (refine i_dst ?_; ((refine i_assign ?_; refine l_q rfl rfl rfl (q_assign rfl) ?_))) | refine d_seq ?_ | refine c_region ?_ | refine l_nil ?_ | (refine i_q ?_; (first | refine d_then ?_ | refine d_then_ret ?_ | refine t_then_ret ?_ | refine t_block_ret ?_)) | refine c_ret ?_ | (refine i_cond ?_; (refine c_ct rfl (by (exact decide_eq_true (by omega))) ?_))))
        exact t_ret1 Try.results29 rfl ⟨by rw [decide_eq_false hne], rfl⟩
    · have hxy : xs = ys := by rwa [List.take_of_length_le (by omega), List.take_of_length_le (by omega)] at he
      (repeat (first | (refine i_dst ?_; (first | (refine i_assign ?_; refine l_q rfl rfl rfl (q_assign rfl) ?_) | (refine i_bin ?_; refine l_q rfl rfl rfl (by (exact q_lss rfl rfl)) ?_))) | refine d_seq ?_ | refine c_region ?_ | refine l_nil ?_ | (refine i_q ?_; (first | refine d_then ?_ | refine d_then_exit ?_ | refine t_then_exit ?_ | refine t_block_eq rfl ?_)) | refine c_exit ?_ | refine c_ret ?_ | (refine i_cond ?_; (refine c_cf rfl (by (exact decide_eq_false (by omega))) ?_))))
      exact t_ret1 Try.results29 rfl ⟨by rw [decide_eq_true hxy], rfl⟩
  · have hne : ¬ xs = ys := fun e => by subst e; omega
    (repeat (first | (refine i_dst ?_; (first | (refine i_move ?_; refine l_q rfl rfl rfl (q_move rfl) ?_) | (refine i_assign ?_; refine l_q rfl rfl rfl (q_assign rfl) ?_) | (refine i_bin ?_; refine l_q rfl rfl rfl (by (exact q_neq rfl rfl)) ?_) | (refine i_blt ?_; refine l_q rfl rfl rfl (by (exact q_len tab rfl rfl)) ?_))) | refine d_seq ?_ | refine c_region ?_ | refine l_nil ?_ | (refine i_q ?_; (first | refine d_then ?_ | refine d_then_ret ?_)) | refine c_ret ?_ | (refine i_cond ?_; (refine c_ct rfl (by (exact decide_eq_true (by omega))) ?_))))
    exact t_ret1 Try.results29 rfl ⟨by rw [decide_eq_false hne], rfl⟩

set_option maxHeartbeats 4000000 in
theorem shown12_spec (w : World) : Calls Try.prog 26 #[] w (Ret w [] fun v B => v = .bool true ∧ B = []) := by
  refine enter (vs := []) Try.func26 rfl Try.ntmps26 rfl (Hold.nil w) ?_
  (repeat (first | (refine i_dst ?_; ((refine i_assign ?_; refine l_q rfl rfl rfl (q_assign rfl) ?_))) | refine d_seq ?_ | refine c_region ?_ | refine l_nil ?_ | (refine i_q ?_; (refine d_then ?_))))
  (refine l_call0 rfl rfl Try.func27 rfl (by decide) (fun w' h => fnew_spec w') (fun v B hv => ?_); obtain ⟨p, rfl, rfl⟩ := hv)
  (repeat (first | (refine i_dst ?_; (first | (refine i_move ?_; refine l_q rfl rfl rfl (q_move rfl) ?_) | (refine i_assign ?_; refine l_q rfl rfl rfl (q_assign rfl) ?_) | (refine i_bldS ?_; refine l_bldS tab rfl rfl rfl rfl (by first | exact CellsOf.agg | exact CellsOf.one rfl) (by first | ((repeat (first | exact RepR.zero | exact AppR.nil | apply RepR.succ | apply AppR.cons)); done) | fail) (by first | ((repeat (first | exact FillR.nil | exact LSets.nil | exact LSet.zero | exact CellsOf.agg | exact rfl | exact CellsOf.one rfl | apply FillR.cons | apply LSets.cons | apply LSet.succ)); done) | fail) (fun w => by kernel_rfl) (fun _ => ?_)) | (refine l_q rfl rfl rfl (by ((apply iq_bld; ((exact q_bld tab rfl rfl rfl (by first | ((repeat (first | exact FillR.nil | exact LSets.nil | exact LSet.zero | exact CellsOf.agg | exact rfl | exact CellsOf.one rfl | apply FillR.cons | apply LSets.cons | apply LSet.succ)); done) | fail) (fun w => by kernel_rfl)))))) ?_))) | refine d_seq ?_ | refine c_region ?_ | refine l_nil ?_ | (refine i_q ?_; (refine d_then ?_))))
  rename_i b5
  (refine l_call1 (X := fireA fT p (fun _ => 0)) (by first | ((repeat (first | exact Ext.head | apply Ext.tail)); done) | fail) rfl rfl Try.func28 rfl (by decide) (fun w' h => fevent_spec h.split 0 (by omega) _ 1 1 [bareL 0 2 0 true] (ins_one rfl (h.roHp (Y := blk b5 (bareC 0 2 0 true) _) (by first | ((repeat (first | exact List.Mem.head _ | apply List.Mem.tail)); done) | fail)) (bare_in (by omega) (by omega) (by omega))) (Nat.le_refl _) (by simp [maxLen]) (fun k _ => by omega)) (fun v B hv => ?_); obtain ⟨f', A1, c1, rfl, rfl, hf'⟩ := hv)
  have e1 : eventM [bareL 0 2 0 true] 0 (fun _ => 0) = [] := rfl
  rw [e1]
  have e2 : eventM [bareL 0 2 0 true] 0 f' = [0] := by
    have h0 := hf' 0 (by omega)
    have h1 : f' 0 = 1 := h0
    simp [eventM, doneM, List.range_succ, fireStep, bareL, h1, sortM, insR]
  (repeat (first | (refine i_dst ?_; (first | (refine i_move ?_; refine l_q rfl rfl rfl (q_move rfl) ?_) | (refine i_bin ?_; refine l_q rfl rfl rfl (by (exact q_eql rfl rfl)) ?_) | (refine i_blt ?_; refine l_q rfl rfl rfl (by (exact q_len tab rfl rfl)) ?_))) | (refine i_guard ?_; (refine l_gt rfl rfl rfl ?_))))
  (refine l_call1 (X := fireA fT p f') (by first | ((repeat (first | exact Ext.head | apply Ext.tail)); done) | fail) rfl rfl Try.func28 rfl (by decide) (fun w' h => fevent_spec h.split 0 (by omega) _ 1 1 [bareL 0 2 0 true] (ins_one rfl (h.roHp (Y := blk b5 (bareC 0 2 0 true) _) (by first | ((repeat (first | exact List.Mem.head _ | apply List.Mem.tail)); done) | fail)) (bare_in (by omega) (by omega) (by omega))) (Nat.le_refl _) (by simp [maxLen]) (fun k hk => by rw [hf' k hk]; rcases (by omega : k = 0 ∨ k = 1 ∨ k = 2 ∨ k = 3) with rfl | rfl | rfl | rfl <;> decide)) (fun v B hv => ?_); obtain ⟨f2, A2, c2, rfl, rfl, hf2⟩ := hv)
  rw [e2]
  (repeat (first | (refine i_dst ?_; ((refine i_bldS ?_; refine l_bldS tab rfl rfl rfl rfl (by first | exact CellsOf.agg | exact CellsOf.one rfl) (by first | ((repeat (first | exact RepR.zero | exact AppR.nil | apply RepR.succ | apply AppR.cons)); done) | fail) (by first | ((repeat (first | exact FillR.nil | exact LSets.nil | exact LSet.zero | exact CellsOf.agg | exact rfl | exact CellsOf.one rfl | apply FillR.cons | apply LSets.cons | apply LSet.succ)); done) | fail) (fun w => by kernel_rfl) (fun _ => ?_)))) | (refine i_guard ?_; (refine l_gt rfl rfl rfl ?_))))
  rename_i g15
  (refine l_call0 rfl rfl Try.func29 rfl (by decide) (fun w' h => ints_spec (xs := [0]) (ys := [0]) (Ro.rowI (Ro.empty (h.mem (X := row _ 1 (.slice A2 _ c2) _ (iv [0])) (by first | ((repeat (first | exact List.Mem.head _ | apply List.Mem.tail)); done) | fail)))) (Ro.blkV (Ro.empty (h.mem (X := blk g15 (iv [0]) _) (by first | ((repeat (first | exact List.Mem.head _ | apply List.Mem.tail)); done) | fail))) rfl) (by simp)) (fun v B hv => ?_); obtain ⟨rfl, rfl⟩ := hv)
  (repeat (first | (refine i_dst ?_; (first | (refine i_assign ?_; refine l_q rfl rfl rfl (q_assign rfl) ?_) | refine l_q rfl rfl rfl (by (exact q_pick_t rfl rfl)) ?_)) | refine l_nil ?_ | (refine i_q ?_; (refine d_then ?_)) | refine c_ret ?_))
  exact t_hp (hp' := []) (fun w h => h.subl (by first | ((repeat (first | exact SubL.nil | apply SubL.keep | apply SubL.skip)); done) | fail)) (t_ret1 Try.results26 rfl ⟨rfl, rfl⟩)
end Go.Proofs.Ytkeekkdaielipaa

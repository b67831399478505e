/-
  Part 10 of the proof of QJ: the texts F2 F3 S5.
-/
import Derived.Test.YtboccjdncdaakaaK09
import Derived.Test.YtboccjdncdaakaaK08

/-
  Layers 17 and 11: ContainsFunc of tables, lists, entries; may, ready, walked.
-/

set_option linter.unusedVariables false
set_option maxRecDepth 100000
namespace Go.Proofs.Ytboccjdncdaakaa
open Go.RowKit
attribute [local irreducible] TL TC TQ TK TO Qt TA
attribute [local irreducible] blk row bytesA starL memA segA roB
set_option maxHeartbeats 4000000 in
theorem spidx_spec {A : Option Addr} {n c : Nat} {ts : List (List EntryI)} {w : World} (hts : InS (fps []) w 1 (InTab (fps []) w) A n ts) (hn : n ≤ 1000) (hsm : ∀ t ∈ ts, t.length ≤ 1000) :
    Calls Try.prog 54 #[.slice A n c, .func (.func 38) #[] #[]] w (Ret w [] fun v B => ∃ i : Int, v = .int .i64 i ∧ B = []) := by
  have hlen := hts.len
  refine enter (vs := [.slice A n c, .func (.func 38) #[] #[]]) Try.func54 rfl Try.ntmps54 rfl (Hold.nil w) ?_
  (repeat (first | (refine i_dst ?_; (first | (refine i_move ?_; refine l_q rfl rfl rfl (q_move rfl) ?_) | (refine i_assign ?_; refine l_q rfl rfl rfl (q_assign rfl) ?_) | (refine i_blt ?_; refine l_q rfl rfl rfl (by (exact q_len tab rfl rfl)) ?_))) | refine d_seq ?_ | refine c_region ?_ | refine l_nil ?_ | refine c_block ?_ | (refine i_q ?_; (refine d_then ?_))))
  refine d_loop (T := Nat) [0, 1, 7] (fun k => [(8, .int .i64 k)]) [] (fun _ => []) (fun k => k ≤ n) (fun k => n - k) 0 (by first | ((repeat (first | exact Pick.nil | exact rfl | apply Pick.cons)); done) | fail) (Nat.zero_le _) (by first | ((repeat (first | exact trivial | exact rfl | apply Sub.cons | exact look_int rfl (by omega) | exact look_int rfl (by simp) | exact look_int rfl (by simp; omega))); done) | fail) (fun w h => h) ?_
  intro k hk
  by_cases hlt : k < n
  · obtain ⟨t, ht⟩ : ∃ t, ts[k]? = some t := ⟨_, List.getElem?_eq_getElem (by omega)⟩
    have ht1000 := hsm t (List.mem_of_getElem? ht)
    obtain ⟨bT, oT, r2, rfl, hrl2, hT, hcell2⟩ := hts.get (by omega) ht
    obtain ⟨Ae, ne, ce, rfl, hE, he1, he2⟩ := hT
    have hel := hE.len
    have hc2 : ∀ hp w', St (fps []) w hp w' → w'.cell? ⟨bT, oT + (k : Int).toNat, none⟩ = some (.slice Ae ne ce) := fun hp w' h => by
      have := (hcell2 hp w' h) 0 _ rfl
      simpa using this
    (repeat (first | (refine i_dst ?_; (first | (refine i_move ?_; refine l_q rfl rfl rfl (q_move rfl) ?_) | (refine i_assign ?_; refine l_q rfl rfl rfl (q_assign rfl) ?_) | (refine i_load ?_; refine l_q rfl rfl rfl (by (exact q_ldc tab rfl rfl rfl (by assumption))) ?_) | (refine i_bin ?_; refine l_q rfl rfl rfl (by (exact q_lss rfl rfl)) ?_) | (refine i_ix ?_; refine l_q rfl rfl rfl (by (exact q_indexAddr1 tab rfl rfl rfl rfl (by omega))) ?_))) | refine d_seq ?_ | refine c_region ?_ | refine l_nil ?_ | refine c_block ?_ | (refine i_q ?_; (refine d_then ?_)) | refine c_skip ?_ | (refine i_cond ?_; (refine c_ct rfl (by (exact decide_eq_true (by omega))) ?_))))
    refine l_op rfl (fun K hK => e_callv (A := []) (F := []) rfl rfl rfl Try.func38 rfl (by decide) (fun w h => h) (fun w' h => spmay1_spec (hE.to (fun r hr => roOf0 h hr) (fun _ _ hx => hx)) (by omega)) (fun v B hv => hK _ _ ?_))
    obtain ⟨b, rfl, rfl⟩ := hv
    clear hK
    cases b with
    | true =>
      (repeat (first | (refine i_dst ?_; (first | (refine i_move ?_; refine l_q rfl rfl rfl (q_move rfl) ?_) | (refine i_assign ?_; refine l_q rfl rfl rfl (q_assign rfl) ?_))) | refine d_seq ?_ | refine c_region ?_ | refine l_nil ?_ | (refine i_q ?_; (first | refine d_then ?_ | refine d_then_ret ?_ | refine t_then_ret ?_ | refine t_block_ret ?_)) | refine c_ret ?_ | (refine i_cond ?_; (refine c_ct rfl (by (rfl)) ?_))))
      exact t_ret1 Try.results54 rfl ⟨k, rfl, rfl⟩
    | false =>
      (repeat (first | (refine i_dst ?_; (first | (refine i_move ?_; refine l_q rfl rfl rfl (q_move rfl) ?_) | (refine i_bin ?_; refine l_q rfl rfl rfl (by (exact q_add rfl rfl (by (exact wr_i64 (by omega))))) ?_))) | refine c_region ?_ | refine l_nil ?_ | (refine i_q ?_; (first | refine d_then ?_ | refine t_then ?_ | refine t_block ?_)) | refine c_skip ?_ | (refine i_cond ?_; (refine c_cf rfl (by (rfl)) ?_))))
      exact k_again (k + 1) (by omega) (by omega) (by first | ((repeat (first | exact trivial | exact rfl | apply Sub.cons | exact look_int rfl (by omega) | exact look_int rfl (by simp) | exact look_int rfl (by simp; omega))); done) | fail) (fun w h => h.subl (by first | ((repeat (first | exact SubL.nil | apply SubL.keep | apply SubL.skip)); done) | fail))
  · (repeat (first | (refine i_dst ?_; (first | (refine i_assign ?_; refine l_q rfl rfl rfl (q_assign rfl) ?_) | (refine i_bin ?_; refine l_q rfl rfl rfl (by (exact q_lss rfl rfl)) ?_))) | refine d_seq ?_ | refine c_region ?_ | refine l_nil ?_ | (refine i_q ?_; (first | refine d_then ?_ | refine d_then_exit ?_ | refine t_then_exit ?_ | refine t_block_eq rfl ?_)) | refine c_exit ?_ | refine c_ret ?_ | (refine i_cond ?_; (refine c_cf rfl (by (exact decide_eq_false (by omega))) ?_))))
    exact t_ret1 Try.results54 rfl ⟨-1, rfl, rfl⟩

set_option maxHeartbeats 4000000 in
theorem spcont_spec {A : Option Addr} {n c : Nat} {ts : List (List EntryI)} {w : World} (hts : InS (fps []) w 1 (InTab (fps []) w) A n ts) (hn : n ≤ 1000) (hsm : ∀ t ∈ ts, t.length ≤ 1000) :
    Calls Try.prog 37 #[.slice A n c, .func (.func 38) #[] #[]] w (Ret w [] fun v B => ∃ b : Bool, v = .bool b ∧ B = []) := by
  refine enter (vs := [.slice A n c, .func (.func 38) #[] #[]]) Try.func37 rfl Try.ntmps37 rfl (Hold.nil w) ?_
  (repeat (first | (refine i_dst ?_; (first | (refine i_move ?_; refine l_q rfl rfl rfl (q_move rfl) ?_) | (refine i_assign ?_; refine l_q rfl rfl rfl (q_assign rfl) ?_))) | refine d_seq ?_ | refine c_region ?_ | refine l_nil ?_ | (refine i_q ?_; (refine d_then ?_))))
  (refine l_call0 rfl rfl Try.func54 rfl (by decide) (fun w' h => spidx_spec (hts.to (fun r hr => roOf0 h hr) (fun _ _ hx => hx.to (fun r hr => roOf0 h hr))) hn hsm) (fun v B hv => ?_); obtain ⟨i, rfl, rfl⟩ := hv)
  (repeat (first | (refine i_dst ?_; (first | (refine i_assign ?_; refine l_q rfl rfl rfl (q_assign rfl) ?_) | (refine i_bin ?_; refine l_q rfl rfl rfl (by (exact q_geq rfl rfl)) ?_))) | refine l_nil ?_ | (refine i_q ?_; (refine d_then ?_)) | refine c_ret ?_))
  exact t_ret1 Try.results37 rfl ⟨_, rfl, rfl⟩

set_option maxHeartbeats 8000000 in
theorem spmay_spec {A : Option Addr} {n c : Nat} {ls : List ListI} {w : World} (hls : InS (fps []) w 8 (InList (fps []) w) A n ls) (hn : n ≤ 1000) (hsm : ∀ l ∈ ls, SmallL l) :
    Calls Try.prog 26 #[.slice A n c] w (Ret w [] fun v B => ∃ b : Bool, v = .bool b ∧ B = []) := by
  have hlen := hls.len
  refine enter (vs := [.slice A n c]) Try.func26 rfl Try.ntmps26 rfl (Hold.nil w) ?_
  (repeat (first | (refine i_dst ?_; (first | (refine i_move ?_; refine l_q rfl rfl rfl (q_move rfl) ?_) | (refine i_assign ?_; refine l_q rfl rfl rfl (q_assign rfl) ?_) | (refine i_blt ?_; refine l_q rfl rfl rfl (by (exact q_len tab rfl rfl)) ?_))) | refine d_seq ?_ | refine c_region ?_ | refine l_nil ?_ | refine c_block ?_ | (refine i_q ?_; (refine d_then ?_))))
  refine d_loop (T := Nat × Nat) [0, 6, 7] (fun k => [(3, .int .i64 k.2), (8, .int .i64 k.1)]) [] (fun _ => []) (fun k => k.1 ≤ n ∧ k.2 ≤ 1000 * k.1) (fun k => n - k.1) (0, 0) (by first | ((repeat (first | exact Pick.nil | exact rfl | apply Pick.cons)); done) | fail) ⟨Nat.zero_le _, Nat.le_refl _⟩ (by first | ((repeat (first | exact trivial | exact rfl | apply Sub.cons | exact look_int rfl (by omega) | exact look_int rfl (by simp) | exact look_int rfl (by simp; omega))); done) | fail) (fun w h => h) ?_
  rintro ⟨k, s⟩ ⟨hk, hs⟩
  dsimp only at hk hs ⊢
  by_cases hlt : k < n
  · obtain ⟨l, hl⟩ : ∃ l, ls[k]? = some l := ⟨_, List.getElem?_eq_getElem (by omega)⟩
    obtain ⟨hs1, hs2⟩ := hsm l (List.mem_of_getElem? hl)
    obtain ⟨b, o, r, rfl, hrl, hL, hcell⟩ := hls.get (by omega) hl
    obtain ⟨⟨At, nt, ct, rfl, htabs, ht1, ht2⟩, -, -, hp1, -⟩ := hL
    have htl := htabs.len
    by_cases hp0 : l.pre = 0
    · (repeat (first | (refine i_dst ?_; (first | (refine i_move ?_; refine l_q rfl rfl rfl (q_move rfl) ?_) | (refine i_assign ?_; refine l_q rfl rfl rfl (q_assign rfl) ?_) | (refine i_load ?_; refine l_q rfl rfl rfl (by (first | (exact q_ld1 tab rfl rfl rfl (by first | ((repeat (first | exact List.Mem.head _ | apply List.Mem.tail)); done) | fail) (by (rfl))) | exact q_ldcN tab rfl rfl rfl rfl (by assumption) rfl)) ?_) | (refine i_bin ?_; refine l_q rfl rfl rfl (by (first | exact q_lss rfl rfl | exact q_eql rfl rfl)) ?_) | (refine i_ix ?_; refine l_q rfl rfl rfl (by (exact q_indexAddr tab rfl rfl rfl rfl (by omega))) ?_) | (refine i_alloc ?_; (refine l_allocA tab rfl rfl (fun _ => ?_))) | (refine l_q rfl rfl rfl (by (first | (apply iq_fld; (exact q_fieldAddr tab rfl rfl rfl rfl rfl rfl rfl)) | exact q_pick_t rfl rfl)) ?_))) | refine d_seq ?_ | refine c_region ?_ | refine l_nil ?_ | refine c_block ?_ | (refine i_q ?_; (first | refine d_then ?_ | refine d_then_ret ?_ | refine t_then_ret ?_ | refine t_block_ret ?_)) | refine c_skip ?_ | refine c_ret ?_ | (refine i_guard ?_; (first | refine l_gf rfl rfl rfl rfl rfl rfl ?_ | (refine l_gfd rfl rfl rfl (by ((simp; omega))) rfl rfl ?_))) | (refine i_store ?_; ((refine l_setN tab rfl rfl rfl rfl (List.cons_ne_nil _ _) rfl (by first | ((repeat (first | exact Upd.head | apply Upd.tail)); done) | fail) (by first | ((repeat (first | exact LSets.nil | exact LSet.zero | apply LSets.cons | apply LSet.succ)); done) | fail) ?_))) | (refine i_cond ?_; (refine c_ct rfl (by (first | rfl | exact decide_eq_true (by omega))) ?_))))
      exact t_hp (hp' := []) (fun w h => h.psub (by first | ((repeat (first | exact PSub.nil | exact Ext.head | apply Ext.tail | apply PSub.cons)); done) | fail)) (t_ret1 Try.results26 rfl ⟨false, rfl, rfl⟩)
    · by_cases hn0 : nt = 0
      · (repeat (first | (refine i_dst ?_; (first | (refine i_move ?_; refine l_q rfl rfl rfl (q_move rfl) ?_) | (refine i_assign ?_; refine l_q rfl rfl rfl (q_assign rfl) ?_) | (refine i_load ?_; refine l_q rfl rfl rfl (by (first | (exact q_ld1 tab rfl rfl rfl (by first | ((repeat (first | exact List.Mem.head _ | apply List.Mem.tail)); done) | fail) (by (rfl))) | exact q_ldcN tab rfl rfl rfl rfl (by assumption) rfl)) ?_) | (refine i_bin ?_; refine l_q rfl rfl rfl (by (first | exact q_lss rfl rfl | exact q_eql rfl rfl)) ?_) | (refine i_blt ?_; refine l_q rfl rfl rfl (by (exact q_len tab rfl rfl)) ?_) | (refine i_ix ?_; refine l_q rfl rfl rfl (by (exact q_indexAddr tab rfl rfl rfl rfl (by omega))) ?_) | (refine i_alloc ?_; (refine l_allocA tab rfl rfl (fun _ => ?_))) | (refine l_q rfl rfl rfl (by (first | (apply iq_fld; (exact q_fieldAddr tab rfl rfl rfl rfl rfl rfl rfl)) | exact q_pick_t rfl rfl | exact q_pick_f rfl rfl)) ?_))) | refine d_seq ?_ | refine c_region ?_ | refine l_nil ?_ | refine c_block ?_ | (refine i_q ?_; (first | refine d_then ?_ | refine d_then_ret ?_ | refine t_then_ret ?_ | refine t_block_ret ?_)) | refine c_skip ?_ | refine c_ret ?_ | (refine i_guard ?_; (first | refine l_gt rfl rfl rfl ?_ | refine l_gf rfl rfl rfl rfl rfl rfl ?_ | (refine l_gtd rfl rfl rfl (by ((simp; omega))) ?_) | (refine l_gfd rfl rfl rfl (by ((simp; omega))) rfl rfl ?_))) | (refine i_store ?_; ((refine l_setN tab rfl rfl rfl rfl (List.cons_ne_nil _ _) rfl (by first | ((repeat (first | exact Upd.head | apply Upd.tail)); done) | fail) (by first | ((repeat (first | exact LSets.nil | exact LSet.zero | apply LSets.cons | apply LSet.succ)); done) | fail) ?_))) | (refine i_cond ?_; (refine c_ct rfl (by (first | rfl | exact decide_eq_true (by omega))) ?_))))
        exact t_hp (hp' := []) (fun w h => h.psub (by first | ((repeat (first | exact PSub.nil | exact Ext.head | apply Ext.tail | apply PSub.cons)); done) | fail)) (t_ret1 Try.results26 rfl ⟨false, rfl, rfl⟩)
      · (repeat (first | (refine i_dst ?_; (first | (refine i_move ?_; refine l_q rfl rfl rfl (q_move rfl) ?_) | (refine i_load ?_; refine l_q rfl rfl rfl (by (first | (exact q_ld1 tab rfl rfl rfl (by first | ((repeat (first | exact List.Mem.head _ | apply List.Mem.tail)); done) | fail) (by (rfl))) | exact q_ldcN tab rfl rfl rfl rfl (by assumption) rfl)) ?_) | (refine i_bin ?_; refine l_q rfl rfl rfl (by (first | exact q_lss rfl rfl | exact q_eql rfl rfl)) ?_) | (refine i_blt ?_; refine l_q rfl rfl rfl (by (exact q_len tab rfl rfl)) ?_) | (refine i_ix ?_; refine l_q rfl rfl rfl (by (exact q_indexAddr tab rfl rfl rfl rfl (by omega))) ?_) | (refine i_alloc ?_; (refine l_allocA tab rfl rfl (fun _ => ?_))) | (refine l_q rfl rfl rfl (by (first | (apply iq_fld; (exact q_fieldAddr tab rfl rfl rfl rfl rfl rfl rfl)) | exact q_pick_f rfl rfl)) ?_))) | refine d_seq ?_ | refine c_region ?_ | refine l_nil ?_ | refine c_block ?_ | (refine i_q ?_; (refine d_then ?_)) | refine c_skip ?_ | (refine i_guard ?_; (first | refine l_gt rfl rfl rfl ?_ | (refine l_gtd rfl rfl rfl (by ((simp; omega))) ?_))) | (refine i_store ?_; ((refine l_setN tab rfl rfl rfl rfl (List.cons_ne_nil _ _) rfl (by first | ((repeat (first | exact Upd.head | apply Upd.tail)); done) | fail) (by first | ((repeat (first | exact LSets.nil | exact LSet.zero | apply LSets.cons | apply LSet.succ)); done) | fail) ?_))) | (refine i_cond ?_; (refine c_ct rfl (by (exact decide_eq_true (by omega))) ?_))))
        (refine l_call0 rfl rfl Try.func37 rfl (by decide) (fun w' h => spcont_spec (htabs.to (fun r hr => roOf0 h hr) (fun _ _ hx => hx.to (fun r hr => roOf0 h hr))) (by omega) hs2) (fun v B hv => ?_); obtain ⟨b, rfl, rfl⟩ := hv)
        cases b with
        | true =>
          (repeat (first | (refine i_dst ?_; (first | (refine i_assign ?_; refine l_q rfl rfl rfl (q_assign rfl) ?_) | refine l_q rfl rfl rfl (by (exact q_pick_f rfl rfl)) ?_)) | refine d_seq ?_ | refine c_region ?_ | refine l_nil ?_ | (refine i_q ?_; (first | refine d_then ?_ | refine d_then_ret ?_ | refine t_then_ret ?_ | refine t_block_ret ?_)) | refine c_ret ?_ | (refine i_cond ?_; (refine c_ct rfl (by (rfl)) ?_))))
          exact t_hp (hp' := []) (fun w h => h.psub (by first | ((repeat (first | exact PSub.nil | exact Ext.head | apply Ext.tail | apply PSub.cons)); done) | fail)) (t_ret1 Try.results26 rfl ⟨false, rfl, rfl⟩)
        | false =>
          (repeat (first | (refine i_dst ?_; (first | (refine i_move ?_; refine l_q rfl rfl rfl (q_move rfl) ?_) | (refine i_assign ?_; refine l_q rfl rfl rfl (q_assign rfl) ?_) | (refine i_load ?_; refine l_q rfl rfl rfl (by ((exact q_ld1 tab rfl rfl rfl (by first | ((repeat (first | exact List.Mem.head _ | apply List.Mem.tail)); done) | fail) (by (rfl))))) ?_) | (refine i_bin ?_; refine l_q rfl rfl rfl (by (exact q_add rfl rfl (by (exact wr_i64 (by omega))))) ?_) | (refine i_blt ?_; refine l_q rfl rfl rfl (by (exact q_len tab rfl rfl)) ?_) | (refine l_q rfl rfl rfl (by (first | (apply iq_fld; (exact q_fieldAddr tab rfl rfl rfl rfl rfl rfl rfl)) | exact q_pick_f rfl rfl)) ?_))) | refine c_region ?_ | refine l_nil ?_ | (refine i_q ?_; (first | refine d_then ?_ | refine t_then ?_ | refine t_block ?_)) | refine c_skip ?_ | (refine i_cond ?_; (refine c_cf rfl (by (rfl)) ?_))))
          exact k_again (k + 1, s + nt) ⟨by dsimp only; omega, by dsimp only; omega⟩ (by dsimp only; omega) (by first | ((repeat (first | exact trivial | exact rfl | apply Sub.cons | exact look_int rfl (by omega) | exact look_int rfl (by simp) | exact look_int rfl (by simp; omega))); done) | fail) (fun w h => h.subl (by first | ((repeat (first | exact SubL.nil | apply SubL.keep | apply SubL.skip)); done) | fail))
  · have hkn : k = n := by omega
    subst hkn
    by_cases h1 : 1 ≤ k
    · by_cases h7 : k ≤ 4
      · (repeat (first | (refine i_dst ?_; (first | (refine i_move ?_; refine l_q rfl rfl rfl (q_move rfl) ?_) | (refine i_assign ?_; refine l_q rfl rfl rfl (q_assign rfl) ?_) | (refine i_bin ?_; refine l_q rfl rfl rfl (by (first | exact q_lss rfl rfl | exact q_geq rfl rfl | exact q_leq rfl rfl)) ?_) | (refine i_blt ?_; refine l_q rfl rfl rfl (by (exact q_len tab rfl rfl)) ?_) | refine l_q rfl rfl rfl (by (exact q_pick_t rfl rfl)) ?_)) | refine d_seq ?_ | refine c_region ?_ | refine l_nil ?_ | (refine i_q ?_; (first | refine d_then ?_ | refine d_then_exit ?_ | refine t_then_exit ?_ | refine t_block_eq rfl ?_)) | refine c_exit ?_ | refine c_ret ?_ | (refine i_guard ?_; (first | refine l_gt rfl rfl rfl ?_ | refine l_gtd rfl rfl rfl (by (exact decide_eq_true (by omega))) ?_)) | (refine i_cond ?_; ((refine c_cf rfl (by (((first | (simp; done) | fail)))) ?_)))))
        exact t_hp (hp' := []) (fun w h => h.psub (by first | ((repeat (first | exact PSub.nil | exact Ext.head | apply Ext.tail | apply PSub.cons)); done) | fail)) (t_ret1 Try.results26 rfl ⟨_, rfl, rfl⟩)
      · (repeat (first | (refine i_dst ?_; (first | (refine i_move ?_; refine l_q rfl rfl rfl (q_move rfl) ?_) | (refine i_assign ?_; refine l_q rfl rfl rfl (q_assign rfl) ?_) | (refine i_bin ?_; refine l_q rfl rfl rfl (by (first | exact q_lss rfl rfl | exact q_geq rfl rfl | exact q_leq rfl rfl)) ?_) | (refine i_blt ?_; refine l_q rfl rfl rfl (by (exact q_len tab rfl rfl)) ?_) | refine l_q rfl rfl rfl (by (first | exact q_pick_t rfl rfl | exact q_pick_f rfl rfl)) ?_)) | refine d_seq ?_ | refine c_region ?_ | refine l_nil ?_ | (refine i_q ?_; (first | refine d_then ?_ | refine d_then_exit ?_ | refine t_then_exit ?_ | refine t_block_eq rfl ?_)) | refine c_exit ?_ | refine c_ret ?_ | (refine i_guard ?_; (first | refine l_gt rfl rfl rfl ?_ | refine l_gf rfl rfl rfl rfl rfl rfl ?_ | refine l_gtd rfl rfl rfl (by (exact decide_eq_true (by omega))) ?_ | refine l_gfd rfl rfl rfl (by (exact decide_eq_false (by omega))) rfl rfl ?_)) | (refine i_cond ?_; ((refine c_cf rfl (by (((first | (simp; done) | fail)))) ?_)))))
        exact t_hp (hp' := []) (fun w h => h.psub (by first | ((repeat (first | exact PSub.nil | exact Ext.head | apply Ext.tail | apply PSub.cons)); done) | fail)) (t_ret1 Try.results26 rfl ⟨_, rfl, rfl⟩)
    · (repeat (first | (refine i_dst ?_; (first | (refine i_move ?_; refine l_q rfl rfl rfl (q_move rfl) ?_) | (refine i_assign ?_; refine l_q rfl rfl rfl (q_assign rfl) ?_) | (refine i_bin ?_; refine l_q rfl rfl rfl (by (first | exact q_lss rfl rfl | exact q_geq rfl rfl)) ?_) | (refine i_blt ?_; refine l_q rfl rfl rfl (by (exact q_len tab rfl rfl)) ?_) | refine l_q rfl rfl rfl (by (exact q_pick_f rfl rfl)) ?_)) | refine d_seq ?_ | refine c_region ?_ | refine l_nil ?_ | (refine i_q ?_; (first | refine d_then ?_ | refine d_then_exit ?_ | refine t_then_exit ?_ | refine t_block_eq rfl ?_)) | refine c_exit ?_ | refine c_ret ?_ | (refine i_guard ?_; (first | refine l_gf rfl rfl rfl rfl rfl rfl ?_ | refine l_gfd rfl rfl rfl (by (exact decide_eq_false (by omega))) rfl rfl ?_)) | (refine i_cond ?_; ((refine c_cf rfl (by (((first | (simp; done) | fail)))) ?_)))))
      exact t_hp (hp' := []) (fun w h => h.psub (by first | ((repeat (first | exact PSub.nil | exact Ext.head | apply Ext.tail | apply PSub.cons)); done) | fail)) (t_ret1 Try.results26 rfl ⟨_, rfl, rfl⟩)
end Go.Proofs.Ytboccjdncdaakaa

/-
  Layer 11: ContainsFunc of lists and entries; ready, walked.
-/

set_option linter.unusedVariables false
set_option maxRecDepth 100000
namespace Go.Proofs.Ytboccjdncdaakaa
open Go.RowKit
attribute [local irreducible] TL TC TQ TK TO Qt TA
attribute [local irreducible] blk row bytesA starL memA segA roB
set_option maxHeartbeats 4000000 in
theorem druns1_spec {v : List Value} {l : ListI} {w : World} {S : Nat → Prop} {W : World} (hl : InList S W v l) :
    Calls Try.prog 53 #[.agg v.toArray] w (Ret w [] fun v B => v = .bool l.on ∧ B = []) := by
  obtain ⟨⟨A, n, c, rfl, htab, hnc, hcm⟩, hl1, hl2, hl3, hl4⟩ := hl
  refine enter (vs := [.agg #[.int .i64 l.first, .slice A n c, .bool l.stim, .int .u8 l.ev, .int .u8 l.pre, .int .u8 l.pri, .bool l.on, .bool l.ch]]) Try.func53 rfl Try.ntmps53 rfl (Hold.nil w) ?_
  (repeat (first | (refine i_dst ?_; (first | (refine i_assign ?_; refine l_q rfl rfl rfl (q_assign rfl) ?_) | (refine i_load ?_; refine l_q rfl rfl rfl (by ((exact q_ld1 tab rfl rfl rfl (by first | ((repeat (first | exact List.Mem.head _ | apply List.Mem.tail)); done) | fail) (by (rfl))))) ?_) | (refine i_box ?_; (refine l_boxA rfl rfl (fun _ => ?_))) | (refine l_q rfl rfl rfl (by ((apply iq_fld; (exact q_fieldAddr tab rfl rfl rfl rfl rfl rfl rfl)))) ?_))) | refine d_seq ?_ | refine c_region ?_ | refine l_nil ?_ | (refine i_q ?_; (refine d_then ?_)) | refine c_ret ?_))
  exact t_hp (hp' := []) (fun w h => h.psub (by first | ((repeat (first | exact PSub.nil | exact Ext.head | apply Ext.tail | apply PSub.cons)); done) | fail)) (t_ret1 Try.results53 rfl ⟨rfl, rfl⟩)

set_option maxHeartbeats 4000000 in
theorem dlidx_spec {A : Option Addr} {n c : Nat} {ls : List ListI} {w : World} (hls : InS (fps []) w 8 (InList (fps []) w) A n ls) (hn : n ≤ 1000) (hoff : ∀ l ∈ ls, l.on = false) :
    Calls Try.prog 63 #[.slice A n c, .func (.func 53) #[] #[]] w (Ret w [] fun v B => v = .int .i64 (-1) ∧ B = []) := by
  have hlen := hls.len
  refine enter (vs := [.slice A n c, .func (.func 53) #[] #[]]) Try.func63 rfl Try.ntmps63 rfl (Hold.nil w) ?_
  (repeat (first | (refine i_dst ?_; (first | (refine i_move ?_; refine l_q rfl rfl rfl (q_move rfl) ?_) | (refine i_assign ?_; refine l_q rfl rfl rfl (q_assign rfl) ?_) | (refine i_blt ?_; refine l_q rfl rfl rfl (by (exact q_len tab rfl rfl)) ?_))) | refine d_seq ?_ | refine c_region ?_ | refine l_nil ?_ | refine c_block ?_ | (refine i_q ?_; (refine d_then ?_))))
  refine d_loop (T := Nat) [0, 1, 7] (fun k => [(8, .int .i64 k)]) [] (fun _ => []) (fun k => k ≤ n) (fun k => n - k) 0 (by first | ((repeat (first | exact Pick.nil | exact rfl | apply Pick.cons)); done) | fail) (Nat.zero_le _) (by first | ((repeat (first | exact trivial | exact rfl | apply Sub.cons | exact look_int rfl (by omega) | exact look_int rfl (by simp) | exact look_int rfl (by simp; omega))); done) | fail) (fun w h => h) ?_
  intro k hk
  by_cases hlt : k < n
  · obtain ⟨l, hl⟩ : ∃ l, ls[k]? = some l := ⟨_, List.getElem?_eq_getElem (by omega)⟩
    have hlo := hoff l (List.mem_of_getElem? hl)
    obtain ⟨b, o, r, rfl, hrl, hL, hcell⟩ := hls.get (by omega) hl
    have hL0 := hL
    obtain ⟨⟨At, nt, ct, rfl, htabs, ht1, ht2⟩, -, -, -, -⟩ := hL
    (repeat (first | (refine i_dst ?_; (first | (refine i_move ?_; refine l_q rfl rfl rfl (q_move rfl) ?_) | (refine i_assign ?_; refine l_q rfl rfl rfl (q_assign rfl) ?_) | (refine i_load ?_; refine l_q rfl rfl rfl (by (exact q_ldcN tab rfl rfl rfl rfl (by assumption) rfl)) ?_) | (refine i_bin ?_; refine l_q rfl rfl rfl (by (exact q_lss rfl rfl)) ?_) | (refine i_ix ?_; refine l_q rfl rfl rfl (by (exact q_indexAddr tab rfl rfl rfl rfl (by omega))) ?_))) | refine d_seq ?_ | refine c_region ?_ | refine l_nil ?_ | refine c_block ?_ | (refine i_q ?_; (refine d_then ?_)) | refine c_skip ?_ | (refine i_cond ?_; (refine c_ct rfl (by (exact decide_eq_true (by omega))) ?_))))
    refine l_op rfl (fun K hK => e_callv (A := []) (F := []) rfl rfl rfl Try.func53 rfl (by decide) (fun w h => h) (fun w' h => druns1_spec hL0) (fun v B hv => hK _ _ ?_))
    obtain ⟨rfl, rfl⟩ := hv
    clear hK
    rw [hlo]
    (repeat (first | (refine i_dst ?_; (first | (refine i_move ?_; refine l_q rfl rfl rfl (q_move rfl) ?_) | (refine i_bin ?_; refine l_q rfl rfl rfl (by (exact q_add rfl rfl (by (exact wr_i64 (by omega))))) ?_))) | refine c_region ?_ | refine l_nil ?_ | (refine i_q ?_; (first | refine d_then ?_ | refine t_then ?_ | refine t_block ?_)) | refine c_skip ?_ | (refine i_cond ?_; (refine c_cf rfl (by (rfl)) ?_))))
    exact k_again (k + 1) (by omega) (by omega) (by first | ((repeat (first | exact trivial | exact rfl | apply Sub.cons | exact look_int rfl (by omega) | exact look_int rfl (by simp) | exact look_int rfl (by simp; omega))); done) | fail) (fun w h => h.subl (by first | ((repeat (first | exact SubL.nil | apply SubL.keep | apply SubL.skip)); done) | fail))
  · (repeat (first | (refine i_dst ?_; (first | (refine i_assign ?_; refine l_q rfl rfl rfl (q_assign rfl) ?_) | (refine i_bin ?_; refine l_q rfl rfl rfl (by (exact q_lss rfl rfl)) ?_))) | refine d_seq ?_ | refine c_region ?_ | refine l_nil ?_ | (refine i_q ?_; (first | refine d_then ?_ | refine d_then_exit ?_ | refine t_then_exit ?_ | refine t_block_eq rfl ?_)) | refine c_exit ?_ | refine c_ret ?_ | (refine i_cond ?_; (refine c_cf rfl (by (exact decide_eq_false (by omega))) ?_))))
    exact t_ret1 Try.results63 rfl ⟨rfl, rfl⟩

set_option maxHeartbeats 4000000 in
theorem dlcont_spec {A : Option Addr} {n c : Nat} {ls : List ListI} {w : World} (hls : InS (fps []) w 8 (InList (fps []) w) A n ls) (hn : n ≤ 1000) (hoff : ∀ l ∈ ls, l.on = false) :
    Calls Try.prog 52 #[.slice A n c, .func (.func 53) #[] #[]] w (Ret w [] fun v B => v = .bool false ∧ B = []) := by
  refine enter (vs := [.slice A n c, .func (.func 53) #[] #[]]) Try.func52 rfl Try.ntmps52 rfl (Hold.nil w) ?_
  (repeat (first | (refine i_dst ?_; (first | (refine i_move ?_; refine l_q rfl rfl rfl (q_move rfl) ?_) | (refine i_assign ?_; refine l_q rfl rfl rfl (q_assign rfl) ?_))) | refine d_seq ?_ | refine c_region ?_ | refine l_nil ?_ | (refine i_q ?_; (refine d_then ?_))))
  (refine l_call0 rfl rfl Try.func63 rfl (by decide) (fun w' h => dlidx_spec (hls.to (fun r hr => roOf0 h hr) (fun _ _ hx => hx.to (fun r hr => roOf0 h hr))) hn hoff) (fun v B hv => ?_); obtain ⟨rfl, rfl⟩ := hv)
  (repeat (first | (refine i_dst ?_; (first | (refine i_assign ?_; refine l_q rfl rfl rfl (q_assign rfl) ?_) | (refine i_bin ?_; refine l_q rfl rfl rfl (by (exact q_geq rfl rfl)) ?_))) | refine l_nil ?_ | (refine i_q ?_; (refine d_then ?_)) | refine c_ret ?_))
  exact t_ret1 Try.results52 rfl ⟨rfl, rfl⟩

set_option maxHeartbeats 4000000 in
theorem dready1_spec {v : List Value} {e : EntryI} {w : World} (he : InEntry v e) :
    Calls Try.prog 67 #[.agg v.toArray] w (Ret w [] fun v B => ∃ b, v = .bool b ∧ B = []) := by
  obtain ⟨rfl, -, -, -⟩ := he
  refine enter (vs := [.agg #[.int .u8 e.size, .int .u8 e.area, .int .u32 e.at_]]) Try.func67 rfl Try.ntmps67 rfl (Hold.nil w) ?_
  (repeat (first | (refine i_dst ?_; (first | (refine i_assign ?_; refine l_q rfl rfl rfl (q_assign rfl) ?_) | (refine i_load ?_; refine l_q rfl rfl rfl (by ((exact q_ld1 tab rfl rfl rfl (by first | ((repeat (first | exact List.Mem.head _ | apply List.Mem.tail)); done) | fail) (by (rfl))))) ?_) | (refine i_bin ?_; refine l_q rfl rfl rfl (by (exact q_eql rfl rfl)) ?_) | (refine i_box ?_; (refine l_boxA rfl rfl (fun _ => ?_))) | (refine l_q rfl rfl rfl (by ((apply iq_fld; (exact q_fieldAddr tab rfl rfl rfl rfl rfl rfl rfl)))) ?_))) | refine d_seq ?_ | refine c_region ?_ | refine l_nil ?_ | (refine i_q ?_; (refine d_then ?_)) | refine c_ret ?_))
  exact t_hp (hp' := []) (fun w h => h.psub (by first | ((repeat (first | exact PSub.nil | exact Ext.head | apply Ext.tail | apply PSub.cons)); done) | fail)) (t_ret1 Try.results67 rfl ⟨_, rfl, rfl⟩)

set_option maxHeartbeats 4000000 in
theorem deidx_spec {A : Option Addr} {n c : Nat} {t : List EntryI} {w : World} (ht : InS (fps []) w 3 InEntry A n t) (hn : n ≤ 1000) :
    Calls Try.prog 70 #[.slice A n c, .func (.func 67) #[] #[]] w (Ret w [] fun v B => ∃ i : Int, v = .int .i64 i ∧ B = []) := by
  have hlen := ht.len
  refine enter (vs := [.slice A n c, .func (.func 67) #[] #[]]) Try.func70 rfl Try.ntmps70 rfl (Hold.nil w) ?_
  (repeat (first | (refine i_dst ?_; (first | (refine i_move ?_; refine l_q rfl rfl rfl (q_move rfl) ?_) | (refine i_assign ?_; refine l_q rfl rfl rfl (q_assign rfl) ?_) | (refine i_blt ?_; refine l_q rfl rfl rfl (by (exact q_len tab rfl rfl)) ?_))) | refine d_seq ?_ | refine c_region ?_ | refine l_nil ?_ | refine c_block ?_ | (refine i_q ?_; (refine d_then ?_))))
  refine d_loop (T := Nat) [0, 1, 7] (fun k => [(8, .int .i64 k)]) [] (fun _ => []) (fun k => k ≤ n) (fun k => n - k) 0 (by first | ((repeat (first | exact Pick.nil | exact rfl | apply Pick.cons)); done) | fail) (Nat.zero_le _) (by first | ((repeat (first | exact trivial | exact rfl | apply Sub.cons | exact look_int rfl (by omega) | exact look_int rfl (by simp) | exact look_int rfl (by simp; omega))); done) | fail) (fun w h => h) ?_
  intro k hk
  by_cases hlt : k < n
  · obtain ⟨e, he⟩ : ∃ e, t[k]? = some e := ⟨_, List.getElem?_eq_getElem (by omega)⟩
    obtain ⟨b, o, r, rfl, hrl, hE, hcell⟩ := ht.get (by omega) he
    have hE0 := hE
    obtain ⟨rfl, -, -, -⟩ := hE
    (repeat (first | (refine i_dst ?_; (first | (refine i_move ?_; refine l_q rfl rfl rfl (q_move rfl) ?_) | (refine i_assign ?_; refine l_q rfl rfl rfl (q_assign rfl) ?_) | (refine i_load ?_; refine l_q rfl rfl rfl (by (exact q_ldcN tab rfl rfl rfl rfl (by assumption) rfl)) ?_) | (refine i_bin ?_; refine l_q rfl rfl rfl (by (exact q_lss rfl rfl)) ?_) | (refine i_ix ?_; refine l_q rfl rfl rfl (by (exact q_indexAddr tab rfl rfl rfl rfl (by omega))) ?_))) | refine d_seq ?_ | refine c_region ?_ | refine l_nil ?_ | refine c_block ?_ | (refine i_q ?_; (refine d_then ?_)) | refine c_skip ?_ | (refine i_cond ?_; (refine c_ct rfl (by (exact decide_eq_true (by omega))) ?_))))
    refine l_op rfl (fun K hK => e_callv (A := []) (F := []) rfl rfl rfl Try.func67 rfl (by decide) (fun w h => h) (fun w' h => dready1_spec hE0) (fun v B hv => hK _ _ ?_))
    obtain ⟨b, rfl, rfl⟩ := hv
    clear hK
    cases b with
    | true =>
      (repeat (first | (refine i_dst ?_; (first | (refine i_move ?_; refine l_q rfl rfl rfl (q_move rfl) ?_) | (refine i_assign ?_; refine l_q rfl rfl rfl (q_assign rfl) ?_))) | refine d_seq ?_ | refine c_region ?_ | refine l_nil ?_ | (refine i_q ?_; (first | refine d_then ?_ | refine d_then_ret ?_ | refine t_then_ret ?_ | refine t_block_ret ?_)) | refine c_ret ?_ | (refine i_cond ?_; (refine c_ct rfl (by (rfl)) ?_))))
      exact t_ret1 Try.results70 rfl ⟨k, rfl, rfl⟩
    | false =>
      (repeat (first | (refine i_dst ?_; (first | (refine i_move ?_; refine l_q rfl rfl rfl (q_move rfl) ?_) | (refine i_bin ?_; refine l_q rfl rfl rfl (by (exact q_add rfl rfl (by (exact wr_i64 (by omega))))) ?_))) | refine c_region ?_ | refine l_nil ?_ | (refine i_q ?_; (first | refine d_then ?_ | refine t_then ?_ | refine t_block ?_)) | refine c_skip ?_ | (refine i_cond ?_; (refine c_cf rfl (by (rfl)) ?_))))
      exact k_again (k + 1) (by omega) (by omega) (by first | ((repeat (first | exact trivial | exact rfl | apply Sub.cons | exact look_int rfl (by omega) | exact look_int rfl (by simp) | exact look_int rfl (by simp; omega))); done) | fail) (fun w h => h.subl (by first | ((repeat (first | exact SubL.nil | apply SubL.keep | apply SubL.skip)); done) | fail))
  · (repeat (first | (refine i_dst ?_; (first | (refine i_assign ?_; refine l_q rfl rfl rfl (q_assign rfl) ?_) | (refine i_bin ?_; refine l_q rfl rfl rfl (by (exact q_lss rfl rfl)) ?_))) | refine d_seq ?_ | refine c_region ?_ | refine l_nil ?_ | (refine i_q ?_; (first | refine d_then ?_ | refine d_then_exit ?_ | refine t_then_exit ?_ | refine t_block_eq rfl ?_)) | refine c_exit ?_ | refine c_ret ?_ | (refine i_cond ?_; (refine c_cf rfl (by (exact decide_eq_false (by omega))) ?_))))
    exact t_ret1 Try.results70 rfl ⟨-1, rfl, rfl⟩

set_option maxHeartbeats 4000000 in
theorem decont_spec {A : Option Addr} {n c : Nat} {t : List EntryI} {w : World} (ht : InS (fps []) w 3 InEntry A n t) (hn : n ≤ 1000) :
    Calls Try.prog 66 #[.slice A n c, .func (.func 67) #[] #[]] w (Ret w [] fun v B => ∃ b : Bool, v = .bool b ∧ B = []) := by
  refine enter (vs := [.slice A n c, .func (.func 67) #[] #[]]) Try.func66 rfl Try.ntmps66 rfl (Hold.nil w) ?_
  have hq := ht
  (repeat (first | (refine i_dst ?_; (first | (refine i_move ?_; refine l_q rfl rfl rfl (q_move rfl) ?_) | (refine i_assign ?_; refine l_q rfl rfl rfl (q_assign rfl) ?_))) | refine d_seq ?_ | refine c_region ?_ | refine l_nil ?_ | (refine i_q ?_; (refine d_then ?_))))
  (refine l_call0 rfl rfl Try.func70 rfl (by decide) (fun w' h => deidx_spec (hq.to (fun r hr => roOf0 h hr) (fun _ _ hx => hx)) hn) (fun v B hv => ?_); obtain ⟨i, rfl, rfl⟩ := hv)
  (repeat (first | (refine i_dst ?_; (first | (refine i_assign ?_; refine l_q rfl rfl rfl (q_assign rfl) ?_) | (refine i_bin ?_; refine l_q rfl rfl rfl (by (exact q_geq rfl rfl)) ?_))) | refine l_nil ?_ | (refine i_q ?_; (refine d_then ?_)) | refine c_ret ?_))
  exact t_ret1 Try.results66 rfl ⟨_, rfl, rfl⟩

set_option maxHeartbeats 8000000 in
/-- A list that may run has tables. -/
theorem dready_spec {v : List Value} {l : ListI} {w : World} (hl : InList (fps []) w v l) (hsm : SmallL l) :
    Calls Try.prog 62 #[.agg v.toArray] w (Ret w [] fun v B => ∃ b : Bool, v = .bool b ∧ B = [] ∧ (b = true → 0 < l.tabs.length)) := by
  obtain ⟨⟨A, n, c, rfl, htabs, hnc, hcm⟩, hl1, hl2, hl3, hl4⟩ := hl
  obtain ⟨hs1, hs2⟩ := hsm
  have htl := htabs.len
  refine enter (vs := [.agg #[.int .i64 l.first, .slice A n c, .bool l.stim, .int .u8 l.ev, .int .u8 l.pre, .int .u8 l.pri, .bool l.on, .bool l.ch]]) Try.func62 rfl Try.ntmps62 rfl (Hold.nil w) ?_
  (repeat (first | (refine i_dst ?_; (first | (refine i_move ?_; refine l_q rfl rfl rfl (q_move rfl) ?_) | (refine i_assign ?_; refine l_q rfl rfl rfl (q_assign rfl) ?_) | (refine i_load ?_; refine l_q rfl rfl rfl (by ((exact q_ld1 tab rfl rfl rfl (by first | ((repeat (first | exact List.Mem.head _ | apply List.Mem.tail)); done) | fail) (by (rfl))))) ?_) | (refine i_blt ?_; refine l_q rfl rfl rfl (by (exact q_len tab rfl rfl)) ?_) | (refine i_box ?_; (refine l_boxA rfl rfl (fun _ => ?_))) | (refine l_q rfl rfl rfl (by ((apply iq_fld; (exact q_fieldAddr tab rfl rfl rfl rfl rfl rfl rfl)))) ?_))) | refine d_seq ?_ | refine c_region ?_ | refine l_nil ?_ | refine c_block ?_ | (refine i_q ?_; (refine d_then ?_))))
  rename_i b1
  refine d_loop (T := Nat) [1, 6, 7] (fun k => [(8, .int .i64 k)]) [blk b1 [.int .i64 l.first, .slice A n c, .bool l.stim, .int .u8 l.ev, .int .u8 l.pre, .int .u8 l.pri, .bool l.on, .bool l.ch] 27] (fun _ => []) (fun k => k ≤ n) (fun k => n - k) 0 (by first | ((repeat (first | exact Pick.nil | exact rfl | apply Pick.cons)); done) | fail) (Nat.zero_le _) (by first | ((repeat (first | exact trivial | exact rfl | apply Sub.cons | exact look_int rfl (by omega) | exact look_int rfl (by simp) | exact look_int rfl (by simp; omega))); done) | fail) (fun w h => h) ?_
  intro k hk
  by_cases hlt : k < n
  · obtain ⟨t, ht⟩ : ∃ t, l.tabs[k]? = some t := ⟨_, List.getElem?_eq_getElem (by omega)⟩
    have ht1000 := hs2 t (List.mem_of_getElem? ht)
    obtain ⟨bT, oT, r2, rfl, hrl2, hT, hcell2⟩ := htabs.get (by omega) ht
    obtain ⟨Ae, ne, ce, rfl, hE, he1, he2⟩ := hT
    have hel := hE.len
    have hc2 : ∀ hp w', St (fps []) w hp w' → w'.cell? ⟨bT, oT + (k : Int).toNat, none⟩ = some (.slice Ae ne ce) := fun hp w' h => by
      have := (hcell2 hp w' h) 0 _ rfl
      simpa using this
    by_cases hn0 : ne = 0
    · (repeat (first | (refine i_dst ?_; (first | (refine i_move ?_; refine l_q rfl rfl rfl (q_move rfl) ?_) | (refine i_assign ?_; refine l_q rfl rfl rfl (q_assign rfl) ?_) | (refine i_load ?_; refine l_q rfl rfl rfl (by (exact q_ldc tab rfl rfl rfl (by assumption))) ?_) | (refine i_bin ?_; refine l_q rfl rfl rfl (by (first | exact q_lss rfl rfl | exact q_eql rfl rfl)) ?_) | (refine i_blt ?_; refine l_q rfl rfl rfl (by (exact q_len tab rfl rfl)) ?_) | (refine i_ix ?_; refine l_q rfl rfl rfl (by (exact q_indexAddr1 tab rfl rfl rfl rfl (by omega))) ?_) | refine l_q rfl rfl rfl (by (exact q_pick_t rfl rfl)) ?_)) | refine d_seq ?_ | refine c_region ?_ | refine l_nil ?_ | refine c_block ?_ | (refine i_q ?_; (first | refine d_then ?_ | refine d_then_ret ?_ | refine t_then_ret ?_ | refine t_block_ret ?_)) | refine c_skip ?_ | refine c_ret ?_ | (refine i_guard ?_; (first | refine l_gf rfl rfl rfl rfl rfl rfl ?_ | (refine l_gfd rfl rfl rfl (by ((simp; omega))) rfl rfl ?_))) | (refine i_cond ?_; (refine c_ct rfl (by (first | rfl | exact decide_eq_true (by omega))) ?_))))
      exact t_hp (hp' := []) (fun w h => h.psub (by first | ((repeat (first | exact PSub.nil | exact Ext.head | apply Ext.tail | apply PSub.cons)); done) | fail)) (t_ret1 Try.results62 rfl ⟨false, rfl, rfl, fun h => by cases h⟩)
    · (repeat (first | (refine i_dst ?_; (first | (refine i_move ?_; refine l_q rfl rfl rfl (q_move rfl) ?_) | (refine i_assign ?_; refine l_q rfl rfl rfl (q_assign rfl) ?_) | (refine i_load ?_; refine l_q rfl rfl rfl (by (exact q_ldc tab rfl rfl rfl (by assumption))) ?_) | (refine i_bin ?_; refine l_q rfl rfl rfl (by (first | exact q_lss rfl rfl | exact q_eql rfl rfl)) ?_) | (refine i_blt ?_; refine l_q rfl rfl rfl (by (exact q_len tab rfl rfl)) ?_) | (refine i_ix ?_; refine l_q rfl rfl rfl (by (exact q_indexAddr1 tab rfl rfl rfl rfl (by omega))) ?_))) | refine d_seq ?_ | refine c_region ?_ | refine l_nil ?_ | refine c_block ?_ | (refine i_q ?_; (refine d_then ?_)) | refine c_skip ?_ | (refine i_guard ?_; (first | refine l_gt rfl rfl rfl ?_ | (refine l_gtd rfl rfl rfl (by ((simp; omega))) ?_))) | (refine i_cond ?_; (refine c_ct rfl (by (exact decide_eq_true (by omega))) ?_))))
      (refine l_call0 rfl rfl Try.func66 rfl (by decide) (fun w' h => decont_spec (hE.to (fun r hr => roOf0 h hr) (fun _ _ hx => hx)) (by omega)) (fun v B hv => ?_); obtain ⟨b, rfl, rfl⟩ := hv)
      cases b with
      | true =>
        (repeat (first | (refine i_dst ?_; (first | (refine i_assign ?_; refine l_q rfl rfl rfl (q_assign rfl) ?_) | refine l_q rfl rfl rfl (by (exact q_pick_f rfl rfl)) ?_)) | refine d_seq ?_ | refine c_region ?_ | refine l_nil ?_ | (refine i_q ?_; (first | refine d_then ?_ | refine d_then_ret ?_ | refine t_then_ret ?_ | refine t_block_ret ?_)) | refine c_ret ?_ | (refine i_cond ?_; (refine c_ct rfl (by (rfl)) ?_))))
        exact t_hp (hp' := []) (fun w h => h.psub (by first | ((repeat (first | exact PSub.nil | exact Ext.head | apply Ext.tail | apply PSub.cons)); done) | fail)) (t_ret1 Try.results62 rfl ⟨false, rfl, rfl, fun h => by cases h⟩)
      | false =>
        (repeat (first | (refine i_dst ?_; (first | (refine i_move ?_; refine l_q rfl rfl rfl (q_move rfl) ?_) | (refine i_bin ?_; refine l_q rfl rfl rfl (by (exact q_add rfl rfl (by (exact wr_i64 (by omega))))) ?_) | refine l_q rfl rfl rfl (by (exact q_pick_f rfl rfl)) ?_)) | refine c_region ?_ | refine l_nil ?_ | (refine i_q ?_; (first | refine d_then ?_ | refine t_then ?_ | refine t_block ?_)) | refine c_skip ?_ | (refine i_cond ?_; (refine c_cf rfl (by (rfl)) ?_))))
        exact k_again (k + 1) (by omega) (by omega) (by first | ((repeat (first | exact trivial | exact rfl | apply Sub.cons | exact look_int rfl (by omega) | exact look_int rfl (by simp) | exact look_int rfl (by simp; omega))); done) | fail) (fun w h => h.subl (by first | ((repeat (first | exact SubL.nil | apply SubL.keep | apply SubL.skip)); done) | fail))
  · (repeat (first | (refine i_dst ?_; (first | (refine i_assign ?_; refine l_q rfl rfl rfl (q_assign rfl) ?_) | (refine i_load ?_; refine l_q rfl rfl rfl (by ((exact q_ld1 tab rfl rfl rfl (by first | ((repeat (first | exact List.Mem.head _ | apply List.Mem.tail)); done) | fail) (by (rfl))))) ?_) | (refine i_bin ?_; refine l_q rfl rfl rfl (by (first | exact q_lss rfl rfl | exact q_gtr rfl rfl)) ?_) | (refine i_blt ?_; refine l_q rfl rfl rfl (by (exact q_len tab rfl rfl)) ?_) | (refine l_q rfl rfl rfl (by ((apply iq_fld; (exact q_fieldAddr tab rfl rfl rfl rfl rfl rfl rfl)))) ?_))) | refine d_seq ?_ | refine c_region ?_ | refine l_nil ?_ | (refine i_q ?_; (first | refine d_then ?_ | refine d_then_exit ?_ | refine t_then_exit ?_ | refine t_block_eq rfl ?_)) | refine c_exit ?_ | refine c_ret ?_ | (refine i_cond ?_; (refine c_cf rfl (by (exact decide_eq_false (by omega))) ?_))))
    exact t_hp (hp' := []) (fun w h => h.psub (by first | ((repeat (first | exact PSub.nil | exact Ext.head | apply Ext.tail | apply PSub.cons)); done) | fail)) (t_ret1 Try.results62 rfl ⟨_, rfl, rfl, fun h => by have := of_decide_eq_true h; omega⟩)
end Go.Proofs.Ytboccjdncdaakaa

/-
  Layer 14: writes, walked.
-/

set_option linter.unusedVariables false
set_option maxRecDepth 100000
namespace Go.Proofs.Ytboccjdncdaakaa
open Go.RowKit
attribute [local irreducible] TL TC TQ TK TO Qt TA
theorem Ro.cut {S : Nat → Prop} {w0 : World} {A : Option Addr} {n c a k : Nat} {l : List Int} (h : Ro S w0 (roB A n l)) (hc : n ≤ c) (hk : a + k ≤ n) : Ro S w0 (roB (cutA A c a 1) k ((l.drop a).take k)) := h.sub (fun h => roB_cut h hc hk) (fun b hb => roB_cutS h.is hc hk b hb)
def WritesOut (p : Nat) (M : Mm) (tabs : List (List EntryI)) (bs : List (List Int)) (v : Value) (B : List Asn) : Prop := ∃ m', v = .bool (writesM M tabs bs).isSome ∧ B = [memA p m'] ∧ MmOk m'.abs ∧ ∀ M', writesM M tabs bs = some M' → m'.abs = M'
theorem needsM_le {t : List EntryI} {k : Nat} : needsM (t.take k) ≤ needsM t := by
  have h : t = t.take k ++ t.drop k := (List.take_append_drop k t).symm
  have : needsM t = needsM (t.take k) + needsM (t.drop k) := by
    have e := congrArg needsM h
    rw [e]
    simp only [needsM, List.map_append, List.sum_append]
  omega
theorem zip_get {tabs : List (List EntryI)} {bs : List (List Int)} {i : Nat} {t : List EntryI} {b : List Int} (ht : tabs[i]? = some t) (hb : bs[i]? = some b) : (tabs.zip bs)[i]? = some (t, b) := by simp [List.getElem?_zip_eq_some, ht, hb]
attribute [local irreducible] blk row bytesA starL memA segA roB
attribute [local irreducible] stimA partA
set_option maxHeartbeats 4000000 in
theorem swrites_spec {p : Nat} {m0 : MemV} {w : World} (hA : Hold [memA p m0] w) (hk : MmOk m0.abs) (v : List Value) (l : ListI) (hl : InList (fps [memA p m0]) w v l) (hsm : SmallL l) (y : PartV) (hy : Ro (fps [memA p m0]) w (partA y)) (hyl : y.bs.length = l.tabs.length) :
    Calls Try.prog 23 #[.pointer (some ⟨p, 0, none⟩), .agg v.toArray, y.v] w (Ret w [memA p m0] (WritesOut p m0.abs l.tabs y.bs)) := by
  obtain ⟨⟨A, n, c, rfl, htab, hnc, hcm⟩, hl1, hl2, hl3, hl4⟩ := hl
  have htl := htab.len
  obtain ⟨Ay, cy, hyv, hy2, hy3, hy4⟩ := part_v hy.is
  have hrow := hy.partRow
  rw [hyv, hy4] at hrow
  have hrow' := hrow.rowV1
  have hmx : maxLen = 2 ^ 63 - 1 := rfl
  rw [hyv]
  refine enter (vs := [.pointer (some ⟨p, 0, none⟩), .agg #[.int .i64 l.first, .slice A n c, .bool l.stim, .int .u8 l.ev, .int .u8 l.pre, .int .u8 l.pri, .bool l.on, .bool l.ch], .slice Ay y.bs.length cy]) Try.func23 rfl Try.ntmps23 rfl hA ?_
  (repeat (first | (refine i_dst ?_; (first | (refine i_move ?_; refine l_q rfl rfl rfl (q_move rfl) ?_) | (refine i_assign ?_; refine l_q rfl rfl rfl (q_assign rfl) ?_) | (refine i_load ?_; refine l_q rfl rfl rfl (by ((exact q_ld1 tab rfl rfl rfl (by first | ((repeat (first | exact List.Mem.head _ | apply List.Mem.tail)); done) | fail) (by (rfl))))) ?_) | (refine i_blt ?_; refine l_q rfl rfl rfl (by (exact q_len tab rfl rfl)) ?_) | (refine i_box ?_; (refine l_boxA rfl rfl (fun _ => ?_))) | (refine l_q rfl rfl rfl (by ((apply iq_fld; (exact q_fieldAddr tab rfl rfl rfl rfl rfl rfl rfl)))) ?_))) | refine d_seq ?_ | refine c_region ?_ | refine l_nil ?_ | refine c_block ?_ | (refine i_q ?_; (refine d_then ?_))))
  rename_i b4
  refine d_loop (T := Nat × MemV) [0, 2, 13, 14] (fun t => [(15, .int .i64 t.1)]) [] (fun t => [memA p t.2]) (fun t => t.1 ≤ n ∧ MmOk t.2.abs ∧ ((l.tabs.zip y.bs).take t.1).foldlM stepT m0.abs = some t.2.abs) (fun t => n - t.1) (0, m0) (by first | ((repeat (first | exact Pick.nil | exact rfl | apply Pick.cons)); done) | fail) ⟨Nat.zero_le _, hk, rfl⟩ (by first | ((repeat (first | exact trivial | exact rfl | apply Sub.cons | exact look_int rfl (by omega) | exact look_int rfl (by simp) | exact look_int rfl (by simp; omega))); done) | fail) (fun w h => h.subl (by first | ((repeat (first | exact SubL.nil | apply SubL.keep | apply SubL.skip)); done) | fail)) ?_
  rintro ⟨i, m⟩ ⟨hi, hkm, hf⟩
  dsimp only at hi hkm hf ⊢
  by_cases hlt : i < n
  · obtain ⟨t, ht⟩ : ∃ t, l.tabs[i]? = some t := ⟨_, List.getElem?_eq_getElem (by omega)⟩
    obtain ⟨b, hb⟩ : ∃ b, y.bs[i]? = some b := ⟨_, List.getElem?_eq_getElem (by omega)⟩
    obtain ⟨u, hu⟩ : ∃ u, y.vs[i]? = some u := ⟨_, List.getElem?_eq_getElem (by omega)⟩
    have hone := hy.partOne hu hb
    obtain ⟨B, cb, rfl, hb1, hb2, -⟩ := bytesA_ro hone.is
    have hbr := hone.bytes
    obtain ⟨bT, oT, r2, rfl, hrl2, hT, hcell2⟩ := htab.get (by omega) ht
    obtain ⟨Ae, ne, ce, rfl, hE, he1, he2⟩ := hT
    have hel := hE.len
    have ht1000 := hsm.2 t (List.mem_of_getElem? ht)
    have hz := zip_get ht hb
    have hc2 : ∀ hp w', St (fps [memA p m0]) w hp w' → w'.cell? ⟨bT, oT + (i : Int).toNat, none⟩ = some (.slice Ae ne ce) := fun hp w' h => by
      have := (hcell2 hp w' h) 0 _ rfl
      simpa using this
    (repeat (first | (refine i_dst ?_; (first | (refine i_move ?_; refine l_q rfl rfl rfl (q_move rfl) ?_) | (refine i_assign ?_; refine l_q rfl rfl rfl (q_assign rfl) ?_) | (refine i_load ?_; refine l_q rfl rfl rfl (by (first | exact q_ldS tab rfl rfl rfl (by (exact fun w h => roV_src (h.ro (by assumption)))) (by (assumption)) | exact q_ldc tab rfl rfl rfl (by assumption))) ?_) | (refine i_bin ?_; refine l_q rfl rfl rfl (by (exact q_lss rfl rfl)) ?_) | (refine i_blt ?_; refine l_q rfl rfl rfl (by (exact q_len tab rfl rfl)) ?_) | (refine i_ix ?_; refine l_q rfl rfl rfl (by (first | exact q_indexAddr1 tab rfl rfl rfl rfl (by omega) | exact q_ixS1 tab rfl rfl rfl rfl (by (exact fun w h => roV_src (h.ro (by assumption)))) (by first | (with_reducible exact Int.toNat_natCast _) | (with_reducible exact Int.toNat_zero) | (with_reducible exact Int.toNat_one) | rfl) (by (omega)) (by (omega)))) ?_))) | refine d_seq ?_ | refine c_region ?_ | refine l_nil ?_ | refine c_block ?_ | (refine i_q ?_; (refine d_then ?_)) | refine c_skip ?_ | (refine i_cond ?_; (refine c_ct rfl (by (exact decide_eq_true (by omega))) ?_))))
    (refine l_call0 rfl rfl Try.func19 rfl (by decide) (fun w' h => needs_spec (hE.to (fun r hr => roOf0 h hr) (fun _ _ hx => hx)) (by omega)) (fun v B hv => ?_); obtain ⟨rfl, rfl⟩ := hv)
    by_cases hbn : b.length < needsM t
    · have hno : writesM m0.abs l.tabs y.bs = none := foldlM_stop (k := i + 1) (by rw [foldlM_take hz hf, stepT, if_pos hbn])
      (repeat (first | (refine i_dst ?_; (first | (refine i_assign ?_; refine l_q rfl rfl rfl (q_assign rfl) ?_) | (refine i_bin ?_; refine l_q rfl rfl rfl (by (exact q_lss rfl rfl)) ?_))) | refine d_seq ?_ | refine c_region ?_ | refine l_nil ?_ | (refine i_q ?_; (first | refine d_then ?_ | refine d_then_ret ?_ | refine t_then_ret ?_ | refine t_block_ret ?_)) | refine c_ret ?_ | (refine i_cond ?_; (refine c_ct rfl (by (exact decide_eq_true (by omega))) ?_))))
      exact t_ret1 Try.results23 rfl ⟨m, by rw [hno]; rfl, rfl, hkm, fun M' h => by rw [hno] at h; cases h⟩
    · (repeat (first | (refine i_dst ?_; (first | (refine i_move ?_; refine l_q rfl rfl rfl (q_move rfl) ?_) | (refine i_bin ?_; refine l_q rfl rfl rfl (by (exact q_lss rfl rfl)) ?_) | (refine i_blt ?_; refine l_q rfl rfl rfl (by (exact q_len tab rfl rfl)) ?_))) | refine d_seq ?_ | refine c_region ?_ | refine l_nil ?_ | refine c_block ?_ | (refine i_q ?_; (refine d_then ?_)) | refine c_skip ?_ | (refine i_cond ?_; (refine c_cf rfl (by (exact decide_eq_false (by omega))) ?_))))
      refine d_loop (T := Nat × MemV × Option Addr × Nat) [0, 2, 13, 14, 15, 29, 30] (fun t' => [(31, .int .i64 t'.1), (9, .slice t'.2.2.1 (b.length - needsM (t.take t'.1)) t'.2.2.2)]) [] (fun t' => [memA p t'.2.1])
        (fun t' => t'.1 ≤ ne ∧ MmOk t'.2.1.abs ∧ (t.take t'.1).foldlM stepE (m.abs, b) = some (t'.2.1.abs, b.drop (needsM (t.take t'.1))) ∧ Ro (fps [memA p m0]) w (roB t'.2.2.1 (b.length - needsM (t.take t'.1)) (b.drop (needsM (t.take t'.1)))) ∧ b.length - needsM (t.take t'.1) ≤ t'.2.2.2 ∧ t'.2.2.2 ≤ maxLen)
        (fun t' => ne - t'.1) (0, m, B, cb) (by first | ((repeat (first | exact Pick.nil | exact rfl | apply Pick.cons)); done) | fail) ⟨Nat.zero_le _, hkm, rfl, by simpa [needsM] using hbr, by simpa [needsM] using hb1, hb2⟩ (by first | ((repeat (first | exact trivial | exact rfl | apply Sub.cons | exact look_int rfl (by omega) | exact look_int rfl (by simp) | exact look_int rfl (by simp; omega))); done) | fail) (fun w h => h) ?_
      rintro ⟨j, m2, Bj, cj⟩ ⟨hj, hk2, hf2, hro, hcj, hcj2⟩
      dsimp only at hj hk2 hf2 hro hcj hcj2 ⊢
      by_cases hjlt : j < ne
      · obtain ⟨e, he⟩ : ∃ e, t[j]? = some e := ⟨_, List.getElem?_eq_getElem (by omega)⟩
        obtain ⟨bE, oE, r3, rfl, hrl3, ⟨rfl, e1, e2, e3⟩, hcell3⟩ := hE.get (by omega) he
        have hst := needsM_take he
        have hle := needsM_le (t := t) (k := j + 1)
        obtain ⟨off, hoff⟩ : ∃ off, off = needsM (t.take j) := ⟨_, rfl⟩
        rw [← hoff] at hro hcj hf2 hst ⊢
        have hnext := Ro.cut (a := e.size) (k := b.length - off - e.size) hro hcj (by omega)
        have htake := hro.take (k := e.size) (by omega)
        rw [List.drop_drop, List.take_of_length_le (by rw [List.length_drop]; omega)] at hnext
        (repeat (first | (refine i_dst ?_; (first | (refine i_load ?_; refine l_q rfl rfl rfl (by (exact q_ldcN tab rfl rfl rfl rfl (by assumption) rfl)) ?_) | (refine i_bin ?_; refine l_q rfl rfl rfl (by (exact q_lss rfl rfl)) ?_) | (refine i_ix ?_; refine l_q rfl rfl rfl (by (exact q_indexAddr tab rfl rfl rfl rfl (by omega))) ?_) | (refine i_alloc ?_; (refine l_allocA tab rfl rfl (fun _ => ?_))))) | refine d_seq ?_ | refine c_region ?_ | refine l_nil ?_ | refine c_block ?_ | (refine i_q ?_; (refine d_then ?_)) | refine c_skip ?_ | (refine i_store ?_; ((refine l_setN tab rfl rfl rfl rfl (List.cons_ne_nil _ _) rfl (by first | ((repeat (first | exact Upd.head | apply Upd.tail)); done) | fail) (by first | ((repeat (first | exact LSets.nil | exact LSet.zero | apply LSets.cons | apply LSet.succ)); done) | fail) ?_))) | (refine i_cond ?_; (refine c_ct rfl (by (exact decide_eq_true (by omega))) ?_))))
        rename_i b11
        (refine a_begin mixed [blk b11 [.int .u8 e.size, .int .u8 e.area, .int .u32 e.at_] 44] 11 rfl (fun w h => h.subl (by first | ((repeat (first | exact SubL.nil | apply SubL.keep | apply SubL.skip)); done) | fail)) ?_)
        ((refine a_q 0 rfl rfl rfl rfl rfl (by decide +kernel) (q_move rfl) ?_; refine a_q 1 rfl rfl rfl rfl rfl (by decide +kernel) (by ((apply iq_fld; (exact q_fieldAddr tab rfl rfl rfl rfl rfl rfl rfl)))) ?_; ((refine a_q 2 rfl rfl rfl rfl rfl (by decide +kernel) (by ((exact q_ld1 tab rfl rfl rfl (by first | ((repeat (first | exact List.Mem.head _ | apply List.Mem.tail)); done) | fail) (by (rfl))))) ?_)); refine a_q 3 rfl rfl rfl rfl rfl (by decide +kernel) (by ((apply iq_fld; (exact q_fieldAddr tab rfl rfl rfl rfl rfl rfl rfl)))) ?_; ((refine a_q 4 rfl rfl rfl rfl rfl (by decide +kernel) (by ((exact q_ld1 tab rfl rfl rfl (by first | ((repeat (first | exact List.Mem.head _ | apply List.Mem.tail)); done) | fail) (by (rfl))))) ?_)); refine a_q 5 rfl rfl rfl rfl rfl (by decide +kernel) (q_move rfl) ?_; refine a_q 6 rfl rfl rfl rfl rfl (by decide +kernel) (by ((apply iq_fld; (exact q_fieldAddr tab rfl rfl rfl rfl rfl rfl rfl)))) ?_; ((refine a_q 7 rfl rfl rfl rfl rfl (by decide +kernel) (by ((exact q_ld1 tab rfl rfl rfl (by first | ((repeat (first | exact List.Mem.head _ | apply List.Mem.tail)); done) | fail) (by (rfl))))) ?_)); refine a_q 8 rfl rfl rfl rfl rfl (by decide +kernel) (by (exact q_slHi tab rfl rfl rfl rfl (by first | (with_reducible exact Int.toNat_natCast _) | (with_reducible exact Int.toNat_zero) | (with_reducible exact Int.toNat_one) | rfl) (by (omega)))) ?_))
        (refine a_e 9 rfl (by decide +kernel) rfl (fun K hK => e_call1 (X := memA p m2) (by first | ((repeat (first | exact Ext.head | apply Ext.tail)); done) | fail) rfl rfl Try.func11 rfl (by decide) (fun w' h => write_spec h.split hk2 1 e.area e.at_ Bj e.size cj ((b.drop off).take e.size) (h.roOf htake (fun X hX => by simp at hX; simp [hX])) (by omega) (by omega) e2 (by omega) (by omega)) (fun v B hv => ?_)); obtain ⟨m3, rfl, hm3, rfl⟩ := hv; refine hK _ _ (fun w h => h.subl (by first | ((repeat (first | exact SubL.nil | apply SubL.keep | apply SubL.skip)); done) | fail)) ?_; clear hK)
        have hk3 : MmOk m3.abs := by rw [hm3]; exact writeM_ok hk2 (by omega)
        ((refine a_q 10 rfl rfl rfl rfl rfl (by decide +kernel) (by (exact q_neq rfl rfl)) ?_))
        refine a_done (by decide +kernel) ?_
        obtain ⟨q, hq⟩ : ∃ q, q = (writeM m2.abs 1 e.area e.at_ ((b.drop off).take e.size)).2 := ⟨_, rfl⟩
        rw [← hq]
        by_cases hq0 : q = 0
        · have hse : stepE (m2.abs, b.drop off) e = some (m3.abs, b.drop (off + e.size)) := by
            rw [stepE]
            dsimp only
            rw [if_pos (by rw [← hq]; exact hq0), ← hm3, List.drop_drop]
          (repeat (first | (refine i_dst ?_; (first | (refine i_move ?_; refine l_q rfl rfl rfl (q_move rfl) ?_) | (refine i_assign ?_; refine l_q rfl rfl rfl (q_assign rfl) ?_) | (refine i_load ?_; refine l_q rfl rfl rfl (by ((exact q_ld1 tab rfl rfl rfl (by first | ((repeat (first | exact List.Mem.head _ | apply List.Mem.tail)); done) | fail) (by (rfl))))) ?_) | (refine i_bin ?_; refine l_q rfl rfl rfl (by (exact q_add rfl rfl (by (exact wr_i64 (by omega))))) ?_) | (refine i_sl ?_; refine l_q rfl rfl rfl (by (exact q_slLo tab rfl rfl rfl rfl (by first | (with_reducible exact Int.toNat_natCast _) | (with_reducible exact Int.toNat_zero) | (with_reducible exact Int.toNat_one) | rfl) (by (omega)))) ?_) | (refine l_q rfl rfl rfl (by ((apply iq_fld; (exact q_fieldAddr tab rfl rfl rfl rfl rfl rfl rfl)))) ?_))) | refine c_region ?_ | refine l_nil ?_ | (refine i_q ?_; (first | refine d_then ?_ | refine t_then ?_ | refine t_block ?_)) | refine c_skip ?_ | (refine i_cond ?_; (refine c_cf rfl (by (exact decide_eq_false (by omega))) ?_))))
          refine k_again (j + 1, m3, cutA Bj cj e.size 1, cj - e.size) ⟨by dsimp only; omega, hk3, ?_, ?_, ?_, by dsimp only; omega⟩ (by dsimp only; omega) ?_ (fun w h => h.subl (by first | ((repeat (first | exact SubL.nil | apply SubL.keep | apply SubL.skip)); done) | fail))
          · dsimp only
            rw [foldlM_take he hf2, hse, hst]
          · dsimp only
            rw [hst, show b.length - (off + e.size) = b.length - off - e.size by omega]
            exact hnext
          · dsimp only
            omega
          · dsimp only
            rw [hst, show b.length - (off + e.size) = b.length - off - e.size by omega]
            exact (by first | ((repeat (first | exact trivial | exact rfl | apply Sub.cons | exact look_int rfl (by omega) | exact look_int rfl (by simp) | exact look_int rfl (by simp; omega))); done) | fail)
        · have hse : stepE (m2.abs, b.drop off) e = none := by
            rw [stepE]
            dsimp only
            rw [if_neg (by rw [← hq]; exact hq0)]
          have hno : writesM m0.abs l.tabs y.bs = none := foldlM_stop (k := i + 1) (by
            rw [foldlM_take hz hf, stepT, if_neg hbn]
            dsimp only
            rw [foldlM_stop (k := j + 1) (by rw [foldlM_take he hf2, hse])]
            rfl)
          (repeat (first | (refine i_dst ?_; ((refine i_assign ?_; refine l_q rfl rfl rfl (q_assign rfl) ?_))) | refine d_seq ?_ | refine c_region ?_ | refine l_nil ?_ | (refine i_q ?_; (first | refine d_then ?_ | refine d_then_ret ?_ | refine t_then_ret ?_ | refine t_block_ret ?_)) | refine c_ret ?_ | (refine i_cond ?_; (refine c_ct rfl (by (exact decide_eq_true (by omega))) ?_))))
          exact t_hp (hp' := [memA p m3]) (fun w h => h.subl (by first | ((repeat (first | exact SubL.nil | apply SubL.keep | apply SubL.skip)); done) | fail)) (t_ret1 Try.results23 rfl ⟨m3, by rw [hno]; rfl, rfl, hk3, fun M' h => by rw [hno] at h; cases h⟩)
      · have hjn : j = ne := by omega
        subst hjn
        rw [List.take_of_length_le (by omega)] at hf2
        (repeat (first | (refine i_dst ?_; (first | (refine i_move ?_; refine l_q rfl rfl rfl (q_move rfl) ?_) | (refine i_bin ?_; refine l_q rfl rfl rfl (by (first | exact q_lss rfl rfl | exact q_add rfl rfl (by (exact wr_i64 (by omega))))) ?_))) | refine d_seq ?_ | refine c_region ?_ | refine l_nil ?_ | (refine i_q ?_; (first | refine d_then ?_ | refine t_then ?_ | refine d_then_exit ?_ | refine t_then_exit ?_ | refine t_block ?_ | refine t_block_eq rfl ?_)) | refine c_exit ?_ | (refine i_cond ?_; ((refine c_cf rfl (by (((first | (simp; done) | fail)))) ?_)))))
        exact k_again (i + 1, m2) ⟨by dsimp only; omega, hk2, by
          dsimp only
          rw [foldlM_take hz hf, stepT, if_neg hbn]
          dsimp only
          rw [hf2]
          rfl⟩ (by dsimp only; omega) (by first | ((repeat (first | exact trivial | exact rfl | apply Sub.cons | exact look_int rfl (by omega) | exact look_int rfl (by simp) | exact look_int rfl (by simp; omega))); done) | fail) (fun w h => h.subl (by first | ((repeat (first | exact SubL.nil | apply SubL.keep | apply SubL.skip)); done) | fail))
  · have hin : i = n := by omega
    subst hin
    have hyes : writesM m0.abs l.tabs y.bs = some m.abs := by
      rw [List.take_of_length_le (by rw [List.length_zip]; omega)] at hf
      exact hf
    (repeat (first | (refine i_dst ?_; (first | (refine i_assign ?_; refine l_q rfl rfl rfl (q_assign rfl) ?_) | (refine i_bin ?_; refine l_q rfl rfl rfl (by (exact q_lss rfl rfl)) ?_))) | refine d_seq ?_ | refine c_region ?_ | refine l_nil ?_ | (refine i_q ?_; (first | refine d_then ?_ | refine d_then_exit ?_ | refine t_then_exit ?_ | refine t_block_eq rfl ?_)) | refine c_exit ?_ | refine c_ret ?_ | (refine i_cond ?_; ((refine c_cf rfl (by (((first | (simp; done) | fail)))) ?_)))))
    exact t_hp (hp' := [memA p m]) (fun w h => h.subl (by first | ((repeat (first | exact SubL.nil | apply SubL.keep | apply SubL.skip)); done) | fail)) (t_ret1 Try.results23 rfl ⟨m, by rw [hyes]; rfl, rfl, hkm, fun M' h => by rw [hyes] at h; injection h⟩)
end Go.Proofs.Ytboccjdncdaakaa

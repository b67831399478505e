/-
  Layer 19: GatherPlays, walked.
-/
import Derived.Test.YtidekbijkknlmaaY6
set_option linter.unusedVariables false
set_option maxRecDepth 100000
namespace Go.Proofs.Ytidekbijkknlmaa
open Go.RowKit
attribute [local irreducible] TL TC TQ TK TO Qt TA
structure RepI where
  k : Nat
  c : Nat
  A : Option Addr
  n : Nat
  m : Nat
  b : List Int
structure RepIOk (S : Nat → Prop) (w0 : World) (x : RepI) : Prop where
  k : x.k ≤ 255
  c : x.c ≤ 255
  ro : Ro S w0 (roB x.A x.n x.b)
  nm : x.n ≤ x.m
  mm : x.m ≤ maxLen
def InRepI (S : Nat → Prop) (w0 : World) (v : List Value) (x : RepI) : Prop := v = [.int .u8 x.k, .int .u8 x.c, .slice x.A x.n x.m] ∧ RepIOk S w0 x
theorem sB_len {P : List (Option (Nat × Nat))} {S : List GL} (h : GOk S) {kind code : Nat} {b : List Int} : (sB (takeG P S kind code b).2).length ≤ 1001 := by
  unfold takeG
  split
  · split
    · exact Nat.zero_le _
    · split
      · exact Nat.zero_le _
      · rename_i s hs
        have := h s (List.mem_of_getElem? hs)
        unfold putG addG
        repeat' split
        all_goals simp only [sB, List.length_append, List.length_nil, List.length_singleton]
        all_goals omega
  · exact Nat.zero_le _
attribute [local irreducible] blk row bytesA starL memA segA roB
attribute [local irreducible] mapA partA gaA rgA
set_option maxHeartbeats 8000000 in
theorem gatherPlays_walk (W : World) (A : Option Addr) (n c : Nat) (ls0 : List ListI) (hls : InS (fps []) W 8 (InList (fps []) W) A n ls0) (hnc : n ≤ c) (hcm : c ≤ maxLen) (A2 : Option Addr) (n2 c2 : Nat) (rs : List RepI) (hrs : InS (fps []) W 3 (InRepI (fps []) W) A2 n2 rs) (hnc2 : n2 ≤ c2) (hcm2 : c2 ≤ maxLen) :
    Calls Try.prog 3 #[.slice A n c, .slice A2 n2 c2] W (Ret W [] fun v _ => v = .bool true) := by
  obtain ⟨lcs, hlc⟩ := lc_of hls
  have hrl := hrs.len
  refine enter (vs := [.slice A n c, .slice A2 n2 c2]) Try.func3 rfl Try.ntmps3 rfl (Hold.nil W) ?_
  have hmx : maxLen = 2 ^ 63 - 1 := rfl
  (repeat (first | (refine i_dst ?_; ((refine i_assign ?_; refine l_q rfl rfl rfl (q_assign rfl) ?_))) | refine d_seq ?_ | refine c_region ?_ | refine l_nil ?_ | (refine i_q ?_; (refine d_then ?_))))
  (refine l_call0 rfl rfl Try.func11 rfl (by decide) (fun w' h => shown19_spec w') (fun v B hv => ?_); obtain ⟨rfl, rfl⟩ := hv)
  (repeat (first | (refine i_dst ?_; (first | (refine i_move ?_; refine l_q rfl rfl rfl (q_move rfl) ?_) | (refine i_assign ?_; refine l_q rfl rfl rfl (q_assign rfl) ?_))) | refine d_seq ?_ | refine c_region ?_ | refine l_nil ?_ | (refine i_q ?_; (refine d_then ?_))))
  (refine l_call0 rfl rfl Try.func12 rfl (by decide) (fun w' h => few19_spec A n c lcs w' (hlc.to (fun r hr => roOf0 h hr) (fun _ _ h => h)) hnc hcm) (fun v B hv => ?_); obtain ⟨A1, c1, xs, rfl, hx1, hx2, rfl, hx3, hx4⟩ := hv)
  obtain ⟨nl, hnl⟩ : ∃ nl, nl = xs.length := ⟨_, rfl⟩
  rw [← hnl] at hx1 hx3 ⊢
  have hxm : ∀ x ∈ xs, x.n ≤ 1000 := fun x hx => by have := (hx4 x hx).1; omega
  (repeat (first | (refine i_dst ?_; (first | (refine i_move ?_; refine l_q rfl rfl rfl (q_move rfl) ?_) | (refine i_assign ?_; refine l_q rfl rfl rfl (q_assign rfl) ?_))) | refine d_seq ?_ | refine c_region ?_ | refine l_nil ?_ | (refine i_q ?_; (refine d_then ?_))))
  (refine l_call0 rfl rfl Try.func13 rfl (by decide) (fun w' h => gnew_spec A1 nl c1 xs w' (lc_in hnl.symm (Ro.empty (h.mem (X := row _ 8 (.slice A1 nl c1) nl (xs.flatMap lcC)) (by first | ((repeat (first | exact List.Mem.head _ | apply List.Mem.tail)); done) | fail))) (fun x hx => (hx4 x hx).2)) hx1 hx2 (by omega) hxm) (fun v B hv => ?_); obtain ⟨p, g0, rfl, rfl, hP0, hS0⟩ := hv)
  have hPl0 := plok_new hP0 hS0
  have hG0 : GOk (absG g0.xs) := by rw [hS0]; exact gok_new hxm
  (repeat ((refine i_dst ?_; ((refine i_move ?_; refine l_q rfl rfl rfl (q_move rfl) ?_)))))
  (refine l_call0 rfl rfl Try.func14 rfl (by decide) (fun w' h => rgnew_spec A1 nl c1 xs w' (lc_in hnl.symm (Ro.empty (h.mem (X := row _ 8 (.slice A1 nl c1) nl (xs.flatMap lcC)) (by first | ((repeat (first | exact List.Mem.head _ | apply List.Mem.tail)); done) | fail))) (fun x hx => (hx4 x hx).2)) hx1 hx2 (by omega)) (fun v B hv => ?_); obtain ⟨q, r0, rfl, rfl, hR0⟩ := hv)
  rw [← hS0] at hR0
  (repeat (first | (refine i_dst ?_; (first | (refine i_move ?_; refine l_q rfl rfl rfl (q_move rfl) ?_) | (refine i_assign ?_; refine l_q rfl rfl rfl (q_assign rfl) ?_) | (refine i_blt ?_; refine l_q rfl rfl rfl (by (first | exact q_len tab rfl rfl | exact q_minN rfl rfl)) ?_) | (refine i_sl ?_; refine l_q rfl rfl rfl (by (exact q_slHi tab rfl rfl rfl rfl (by first | (with_reducible exact Int.toNat_natCast _) | (with_reducible exact Int.toNat_zero) | (with_reducible exact Int.toNat_one) | rfl) (by (omega)))) ?_))) | refine d_seq ?_ | refine c_region ?_ | refine l_nil ?_ | refine c_block ?_ | (refine i_q ?_; (refine d_then ?_))))
  refine d_loop (T := Nat × GaV × RG) [5, 7, 8, 26, 27] (fun t => [(28, .int .i64 t.1)]) [] (fun t => [gaA p t.2.1, rgA q t.2.2]) (fun t => t.1 ≤ min n2 100 ∧ t.2.1.P = plL 0 xs ∧ GOk (absG t.2.1.xs) ∧ PlOk t.2.1.P t.2.1.xs.length ∧ RGOk t.2.2 xs (absG t.2.1.xs)) (fun t => min n2 100 - t.1) (0, g0, r0) (by first | ((repeat (first | exact Pick.nil | exact rfl | apply Pick.cons)); done) | fail) ⟨Nat.zero_le _, hP0, hG0, hPl0, hR0⟩ (by first | ((repeat (first | exact trivial | exact rfl | apply Sub.cons | exact look_int rfl (by omega) | exact look_int rfl (by simp) | exact look_int rfl (by simp; omega))); done) | fail) (fun w h => h.psub (by first | ((repeat (first | exact PSub.nil | exact Ext.head | apply Ext.tail | apply PSub.cons)); done) | fail)) ?_
  clear hP0 hG0 hPl0 hR0 hS0
  rintro ⟨i, g, r⟩ ⟨hi, hP, hG, hPl, hR⟩
  dsimp only at hi hP hG hPl hR ⊢
  by_cases hlt : i < min n2 100
  · obtain ⟨⟨kd, cd, Ab, nb, mb, b⟩, hy⟩ : ∃ x, rs[i]? = some x := ⟨_, List.getElem?_eq_getElem (by omega)⟩
    obtain ⟨bA, oA, r1, rfl, hr1, ⟨rfl, k1, k2, k3, k4, k5⟩, hcell⟩ := hrs.get (by omega) hy
    dsimp only at k1 k2 k3 k4 k5 hcell
    have k6 : Ro (fps []) W (roB Ab (min nb 10) (b.take (min nb 10))) := k3.take (by omega)
    (repeat (first | (refine i_dst ?_; (first | (refine i_move ?_; refine l_q rfl rfl rfl (q_move rfl) ?_) | (refine i_load ?_; refine l_q rfl rfl rfl (by (first | (exact q_ld1 tab rfl rfl rfl (by first | ((repeat (first | exact List.Mem.head _ | apply List.Mem.tail)); done) | fail) (by (rfl))) | (exact q_ldN tab rfl rfl rfl rfl (by first | ((repeat (first | exact List.Mem.head _ | apply List.Mem.tail)); done) | fail) (by first | ((repeat (first | exact TakeR.nil | apply TakeR.cons | apply CutR.zero | apply CutR.skip)); done) | fail)) | exact q_ldcN tab rfl rfl rfl rfl (by assumption) rfl)) ?_) | (refine i_bin ?_; refine l_q rfl rfl rfl (by (exact q_lss rfl rfl)) ?_) | (refine i_blt ?_; refine l_q rfl rfl rfl (by (first | exact q_len tab rfl rfl | exact q_minN rfl rfl)) ?_) | (refine i_ix ?_; refine l_q rfl rfl rfl (by (exact q_indexAddr tab rfl rfl rfl rfl (by omega))) ?_) | (refine i_sl ?_; refine l_q rfl rfl rfl (by (exact q_slHi tab rfl rfl rfl rfl (by first | (with_reducible exact Int.toNat_natCast _) | (with_reducible exact Int.toNat_zero) | (with_reducible exact Int.toNat_one) | rfl) (by (omega)))) ?_) | (refine i_alloc ?_; (refine l_allocA tab rfl rfl (fun _ => ?_))) | (refine l_q rfl rfl rfl (by ((apply iq_fld; (exact q_fieldAddr tab rfl rfl rfl rfl rfl rfl rfl)))) ?_))) | refine d_seq ?_ | refine c_region ?_ | refine l_nil ?_ | refine c_block ?_ | (refine i_q ?_; (refine d_then ?_)) | refine c_skip ?_ | (refine i_store ?_; (first | (refine l_set tab rfl rfl rfl rfl (by first | ((repeat (first | exact Upd.head | apply Upd.tail)); done) | fail) (by first | ((repeat (first | exact LSet.zero | apply LSet.succ)); done) | fail) ?_) | (refine l_setN tab rfl rfl rfl rfl (List.cons_ne_nil _ _) rfl (by first | ((repeat (first | exact Upd.head | apply Upd.tail)); done) | fail) (by first | ((repeat (first | exact LSets.nil | exact LSet.zero | apply LSets.cons | apply LSet.succ)); done) | fail) ?_))) | (refine i_cond ?_; (refine c_ct rfl (by (exact decide_eq_true (by omega))) ?_))))
    (refine l_call1 (X := gaA p g) (by first | ((repeat (first | exact Ext.head | apply Ext.tail)); done) | fail) rfl rfl Try.func15 rfl (by decide) (fun w' h => gtook_spec h.split hPl hG kd cd k1 k2 Ab (min nb 10) mb (b.take (min nb 10)) (h.roOf k6 (fun X hX => by simp at hX; simp [hX])) (by omega)) (fun v B hv => ?_); obtain ⟨g1, As, cs, vs, rfl, rfl, hP1, hS1, hc1, hc2, hG1, hPl1⟩ := hv)
    (repeat (first | (refine i_dst ?_; (first | (refine i_move ?_; refine l_q rfl rfl rfl (q_move rfl) ?_) | (refine i_assign ?_; refine l_q rfl rfl rfl (q_assign rfl) ?_) | (refine i_load ?_; refine l_q rfl rfl rfl (by ((exact q_ldN tab rfl rfl rfl rfl (by first | ((repeat (first | exact List.Mem.head _ | apply List.Mem.tail)); done) | fail) (by first | ((repeat (first | exact TakeR.nil | apply TakeR.cons | apply CutR.zero | apply CutR.skip)); done) | fail)))) ?_) | (refine i_alloc ?_; (refine l_allocA tab rfl rfl (fun _ => ?_))) | refine l_q rfl rfl rfl (by (exact q_extract rfl rfl)) ?_)) | refine d_seq ?_ | refine c_region ?_ | refine l_nil ?_ | (refine i_q ?_; (refine d_then ?_)) | (refine i_store ?_; ((refine l_setN tab rfl rfl rfl rfl (List.cons_ne_nil _ _) rfl (by first | ((repeat (first | exact Upd.head | apply Upd.tail)); done) | fail) (by first | ((repeat (first | exact LSets.nil | exact LSet.zero | apply LSets.cons | apply LSet.succ)); done) | fail) ?_)))))
    (refine l_call1 (X := rgA q r) (by first | ((repeat (first | exact Ext.head | apply Ext.tail)); done) | fail) rfl rfl Try.func16 rfl (by decide) (fun w' h => rgtake_spec h.split hR hG (by omega) hxm kd cd k1 k2 Ab (min nb 10) mb (b.take (min nb 10)) (h.roOf k6 (fun X hX => by simp at hX; simp [hX])) (by omega)) (fun v B hv => ?_); obtain ⟨r1, At, ct, vt, rfl, rfl, hR1⟩ := hv)
    have hbl := sB_len (P := plL 0 xs) hG (kind := kd) (code := cd) (b := b.take (min nb 10))
    rw [hP] at hS1 hP1 hc1 ⊢
    generalize takeG (plL 0 xs) (absG g.xs) kd cd (b.take (min nb 10)) = R at *
    obtain ⟨S1, o⟩ := R
    dsimp only at hS1 hbl hR1 hc1 ⊢
    subst hS1
    generalize sI o = oi at *
    generalize sL o = ol at *
    generalize sB o = ob at *
    (repeat (first | (refine i_dst ?_; (first | (refine i_move ?_; refine l_q rfl rfl rfl (q_move rfl) ?_) | (refine i_assign ?_; refine l_q rfl rfl rfl (q_assign rfl) ?_) | (refine i_load ?_; refine l_q rfl rfl rfl (by ((exact q_ldN tab rfl rfl rfl rfl (by first | ((repeat (first | exact List.Mem.head _ | apply List.Mem.tail)); done) | fail) (by first | ((repeat (first | exact TakeR.nil | apply TakeR.cons | apply CutR.zero | apply CutR.skip)); done) | fail)))) ?_) | (refine i_bin ?_; refine l_q rfl rfl rfl (by (exact q_neb tab rfl rfl rfl)) ?_) | (refine i_alloc ?_; (refine l_allocA tab rfl rfl (fun _ => ?_))) | refine l_q rfl rfl rfl (by (exact q_extract rfl rfl)) ?_)) | refine d_seq ?_ | refine c_region ?_ | refine l_nil ?_ | (refine i_q ?_; (refine d_then ?_)) | (refine i_guard ?_; (first | refine l_gt rfl rfl rfl ?_ | (refine l_gtd rfl rfl rfl (by (((first | (simp; done) | fail)))) ?_))) | (refine i_store ?_; ((refine l_setN tab rfl rfl rfl rfl (List.cons_ne_nil _ _) rfl (by first | ((repeat (first | exact Upd.head | apply Upd.tail)); done) | fail) (by first | ((repeat (first | exact LSets.nil | exact LSet.zero | apply LSets.cons | apply LSet.succ)); done) | fail) ?_)))))
    (refine l_call0 rfl rfl Try.func17 rfl (by decide) (fun w' h => same19_spec (n := ob.length) (c := cs) (c' := ct) (xs := ob) oi ol (parts_in (y := ⟨.slice As ob.length cs, vs, ob⟩) rfl (Ro.empty (h.mem (X := partA ⟨.slice As ob.length cs, vs, ob⟩) (by first | ((repeat (first | exact List.Mem.head _ | apply List.Mem.tail)); done) | fail)))) (parts_in (y := ⟨.slice At ob.length ct, vt, ob⟩) rfl (Ro.empty (h.mem (X := partA ⟨.slice At ob.length ct, vt, ob⟩) (by first | ((repeat (first | exact List.Mem.head _ | apply List.Mem.tail)); done) | fail)))) (by omega)) (fun v B hv => ?_); obtain ⟨rfl, rfl⟩ := hv)
    (repeat (first | (refine i_dst ?_; (first | (refine i_move ?_; refine l_q rfl rfl rfl (q_move rfl) ?_) | (refine i_bin ?_; refine l_q rfl rfl rfl (by (exact q_add rfl rfl (by (exact wr_i64 (by omega))))) ?_) | refine l_q rfl rfl rfl (by (first | exact q_not rfl | exact q_pick_f rfl rfl)) ?_)) | refine c_region ?_ | refine l_nil ?_ | (refine i_q ?_; (first | refine d_then ?_ | refine t_then ?_ | refine t_block ?_)) | refine c_skip ?_ | (refine i_guard ?_; (refine l_gt rfl rfl rfl ?_)) | (refine i_cond ?_; (refine c_cf rfl (by (rfl)) ?_))))
    exact k_again (i + 1, g1, r1) ⟨by dsimp only; omega, hP1, hG1, hPl1, hR1⟩ (by dsimp only; omega) (by first | ((repeat (first | exact trivial | exact rfl | apply Sub.cons | exact look_int rfl (by omega) | exact look_int rfl (by simp) | exact look_int rfl (by simp; omega))); done) | fail) (fun w h => h.psub (by first | ((repeat (first | exact PSub.nil | exact Ext.head | apply Ext.tail | apply PSub.cons)); done) | fail))
  · have hin : i = min n2 100 := by omega
    (repeat (first | (refine i_dst ?_; (first | (refine i_move ?_; refine l_q rfl rfl rfl (q_move rfl) ?_) | (refine i_assign ?_; refine l_q rfl rfl rfl (q_assign rfl) ?_) | (refine i_bin ?_; refine l_q rfl rfl rfl (by (exact q_lss rfl rfl)) ?_))) | refine d_seq ?_ | refine c_region ?_ | refine l_nil ?_ | (refine i_q ?_; (first | refine d_then ?_ | refine d_then_exit ?_ | refine t_then_exit ?_ | refine t_block_eq rfl ?_)) | refine c_exit ?_ | refine c_ret ?_ | (refine i_cond ?_; (refine c_cf rfl (by (exact decide_eq_false (by omega))) ?_))))
    exact t_hp (hp' := []) (fun w h => h.psub (by first | ((repeat (first | exact PSub.nil | exact Ext.head | apply Ext.tail | apply PSub.cons)); done) | fail)) (t_ret1 Try.results3 rfl rfl)
end Go.Proofs.Ytidekbijkknlmaa

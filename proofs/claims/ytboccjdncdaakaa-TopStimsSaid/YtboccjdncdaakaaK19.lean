/-
  Part 19 of the proof of QJ: the texts FH SLk C1 C2.
-/
import Derived.Test.YtboccjdncdaakaaK18
import Derived.Test.YtboccjdncdaakaaK09
import Derived.Test.YtboccjdncdaakaaK07
import Derived.Test.YtboccjdncdaakaaK06

/-
  Layer 11: all, walked.
-/

set_option linter.unusedVariables false
set_option maxRecDepth 100000
namespace Go.Proofs.Ytboccjdncdaakaa
open Go.RowKit
attribute [local irreducible] TL TC TQ TK TO Qt TA
def alX (x : LstV) : LstV := ⟨⟨x.l.first, x.l.tabs, x.l.stim, x.l.ev, x.l.pre, x.l.pri, x.l.ch, false⟩, x.tv, x.tvs⟩
theorem alX_map (xs : List LstV) : (xs.map alX).map tblA = xs.map tblA := by rw [List.map_map]; rfl
theorem al_cells {xs : List LstV} {i : Nat} {x : LstV} {junk : List Value} (hx : xs[i]? = some x) (hch : x.l.ch = true) : ((((mixF alX xs i).flatMap lstCells ++ junk).set (i * 8 + 6) (.bool true)).set (i * 8 + 7) (.bool false)) = (mixF alX xs (i + 1)).flatMap lstCells ++ junk := by
  have hi := (List.getElem?_eq_some_iff.1 hx).1
  rw [cells_set (mixF_get hx) (y := ⟨⟨x.l.first, x.l.tabs, x.l.stim, x.l.ev, x.l.pre, x.l.pri, true, x.l.ch⟩, x.tv, x.tvs⟩) (by omega) rfl, cells_set (x := ⟨⟨x.l.first, x.l.tabs, x.l.stim, x.l.ev, x.l.pre, x.l.pri, true, x.l.ch⟩, x.tv, x.tvs⟩) (y := alX x) (List.getElem?_set_self (by rw [mixF_len]; exact hi)) (by omega) (by rw [alX, hch]; rfl), List.set_set, mixF_set hx]
theorem al_cells0 {xs : List LstV} {i : Nat} {x : LstV} {junk : List Value} (hx : xs[i]? = some x) (hch : x.l.ch = false) (hon : x.l.on = false) : ((mixF alX xs i).flatMap lstCells ++ junk).set (i * 8 + 7) (.bool false) = (mixF alX xs (i + 1)).flatMap lstCells ++ junk := by
  rw [cells_set (mixF_get hx) (y := alX x) (by omega) (by rw [alX, hch]; simp only [lstCells, hon]; rfl), mixF_set hx]
theorem alX_ok {d : DqV} (hok : DqOk d) {c : Nat} {A : Option Addr} : DqOk ⟨d.step, A, c, d.xs.map alX, d.pv⟩ := by
  refine ⟨by dsimp only; rw [List.length_map]; exact hok.len, hok.step, ?_, fun x hx => ?_, fun h => by dsimp only; rw [hok.free h]; rfl, fun y hy => ?_⟩
  · have e : totT ((d.xs.map alX).map (·.l)) = totT (lsOf d) := by
      rw [lsOf, totT, totT, List.map_map, List.map_map, List.map_map]
      rfl
    show totT ((d.xs.map alX).map (·.l)) ≤ 16
    rw [e]
    exact hok.tot
  · obtain ⟨x0, h0, rfl⟩ := List.mem_map.1 hx
    have hxo := hok.lists x0 h0
    exact ⟨hxo.first, hxo.ev, hxo.pre, hxo.pri, hxo.tabs, hxo.tab⟩
  · obtain ⟨x, t, h1, h2, h3⟩ := hok.ptr y hy
    exact ⟨alX x, t, by simp [h1], h2, h3⟩
attribute [local irreducible] blk row bytesA starL memA segA roB otA entA tblA
set_option maxHeartbeats 16000000 in
theorem dall_spec {p : Nat} {d : DqV} {w : World} (hA : Hold (dqL p d) w) (hok : DqOk d) (hoff : Off d) (c : CmdV) (hc : c.code = 26) (hc1' : c.a0 = 1) (hcok : c.Ok) :
    Calls Try.prog 51 #[.pointer (some ⟨p, 0, none⟩), .agg (cmdC c).toArray] w (Ret w (dqL p d) (DoOut p c d)) := by
  have hmx : maxLen = 2 ^ 63 - 1 := rfl
  have hok0 := hok
  obtain ⟨hlen, hst, htot, hlists, hfree, hptr⟩ := hok
  refine enter (vs := [.pointer (some ⟨p, 0, none⟩), .agg (cmdC c).toArray]) Try.func51 rfl Try.ntmps51 rfl hA ?_
  refine c_fact (p := DqSh d) (fun w h => dq_sh (F := []) h) ?_
  rintro ⟨⟨hc1, hc2⟩, hgA, htv⟩
  refine c_hp (hp' := [blk p [.int .i64 4, .int .i64 d.step, .slice d.A d.xs.length d.c, ptV d.pv] 98, row 27 8 (.slice d.A d.xs.length d.c) d.xs.length (d.xs.flatMap lstCells), starL (d.xs.map tblA), ptA d.pv]) (fun w h => h) ?_
  simp only [cmdC]
  (repeat (first | (refine i_dst ?_; (first | (refine i_move ?_; refine l_q rfl rfl rfl (q_move rfl) ?_) | (refine i_assign ?_; refine l_q rfl rfl rfl (q_assign rfl) ?_) | (refine i_load ?_; refine l_q rfl rfl rfl (by ((exact q_ld1 tab rfl rfl rfl (by first | ((repeat (first | exact List.Mem.head _ | apply List.Mem.tail)); done) | fail) (by (rfl))))) ?_) | (refine i_bin ?_; refine l_q rfl rfl rfl (by (exact q_gtr rfl rfl)) ?_) | (refine i_blt ?_; refine l_q rfl rfl rfl (by (exact q_len tab rfl rfl)) ?_) | (refine i_ix ?_; refine l_q rfl rfl rfl (by (exact q_indexAddrA1 tab rfl rfl rfl rfl (by omega))) ?_) | (refine i_box ?_; (refine l_boxA rfl rfl (fun _ => ?_))) | (refine l_q rfl rfl rfl (by (first | (apply iq_fld; (exact q_fieldAddr tab rfl rfl rfl rfl rfl rfl rfl)) | (apply iq_nck; (exact q_nilck rfl)))) ?_))) | refine d_seq ?_ | refine c_region ?_ | refine l_nil ?_ | refine c_block ?_ | (refine i_q ?_; (refine d_then ?_)) | refine c_skip ?_ | (refine i_cond ?_; (refine c_cf rfl (by (exact decide_eq_false (by omega))) ?_))))
  rename_i b3
  refine d_loop (T := Nat) [0, 3, 16] (fun i => [(17, .int .i64 i)]) [blk b3 [.int .u8 c.code, .int .u8 c.a0, .int .u8 c.a1, .int .u8 c.a2, .int .u8 c.a3, .int .u8 c.a4, .int .u32 c.w, .slice none 0 0] 59, blk p [.int .i64 4, .int .i64 d.step, .slice d.A d.xs.length d.c, ptV d.pv] 98, starL (d.xs.map tblA), ptA d.pv] (fun i => [row 27 8 (.slice d.A d.xs.length d.c) d.xs.length ((mixF alX d.xs i).flatMap lstCells)]) (fun i => i ≤ d.xs.length) (fun i => d.xs.length - i) 0 (by first | ((repeat (first | exact Pick.nil | exact rfl | apply Pick.cons)); done) | fail) (Nat.zero_le _) (by first | ((repeat (first | exact trivial | exact rfl | apply Sub.cons | exact look_int rfl (by omega) | exact look_int rfl (by simp) | exact look_int rfl (by simp; omega))); done) | fail) (fun w h => by rw [mixF_zero]; exact h.psub (by first | ((repeat (first | exact PSub.nil | exact Ext.head | apply Ext.tail | apply PSub.cons)); done) | fail)) ?_
  intro i hi
  by_cases hlt : i < d.xs.length
  · obtain ⟨x, hx⟩ : ∃ x, d.xs[i]? = some x := ⟨_, List.getElem?_eq_getElem hlt⟩
    have hxo := hoff x (List.mem_of_getElem? hx)
    have hmx2 := mixF_get (f := alX) hx
    have hml := mixF_len alX d.xs i
    obtain ⟨g, hg⟩ := hgA (by omega)
    cases hch : x.l.ch with
    | true =>
      (repeat (first | (refine i_dst ?_; (first | (refine i_move ?_; refine l_q rfl rfl rfl (q_move rfl) ?_) | (refine i_assign ?_; refine l_q rfl rfl rfl (q_assign rfl) ?_) | (refine i_load ?_; refine l_q rfl rfl rfl (by (first | (exact q_ld1 tab rfl rfl rfl (by first | ((repeat (first | exact List.Mem.head _ | apply List.Mem.tail)); done) | fail) (by (rfl))) | (exact q_ldF tab rfl rfl rfl (by ((exact fun w h => row_src (h.mem (by first | ((repeat (first | exact List.Mem.head _ | apply List.Mem.tail)); done) | fail))))) (by exact fun _ => rfl) (by assumption) (by exact rfl)))) ?_) | (refine i_bin ?_; refine l_q rfl rfl rfl (by (first | exact q_lss rfl rfl | exact q_eql rfl rfl)) ?_) | (refine i_ix ?_; refine l_q rfl rfl rfl (by (first | exact q_indexAddrA1 tab rfl rfl rfl rfl (by omega) | (exact q_ixSN tab rfl rfl rfl rfl (by ((exact fun w h => row_src (h.mem (by first | ((repeat (first | exact List.Mem.head _ | apply List.Mem.tail)); done) | fail))))) (by first | (with_reducible exact Int.toNat_natCast _) | (with_reducible exact Int.toNat_zero) | (with_reducible exact Int.toNat_one) | rfl) (by (omega)) (by (omega))))) ?_) | (refine l_q rfl rfl rfl (by (first | (apply iq_fld; (first | exact q_fieldAddr tab rfl rfl rfl rfl rfl rfl rfl | (exact q_fldS tab rfl rfl rfl rfl rfl rfl rfl (by ((exact fun w h => row_src (h.mem (by first | ((repeat (first | exact List.Mem.head _ | apply List.Mem.tail)); done) | fail))))) (by (omega))))) | (apply iq_nck; (first | exact q_nilck rfl | (exact q_nckS rfl (by ((exact fun w h => row_src (h.mem (by first | ((repeat (first | exact List.Mem.head _ | apply List.Mem.tail)); done) | fail))))) (by (omega))))) | exact q_pick_t rfl rfl)) ?_))) | refine d_seq ?_ | refine c_region ?_ | refine l_nil ?_ | refine c_block ?_ | (refine i_q ?_; (refine d_then ?_)) | refine c_skip ?_ | (refine i_guard ?_; (first | refine l_gf rfl rfl rfl rfl rfl rfl ?_ | refine l_gfd rfl rfl rfl (by (assumption)) rfl rfl ?_)) | (refine i_cond ?_; (refine c_ct rfl (by (first | rfl | exact decide_eq_true (by omega))) ?_))))
      rw [hg]
      simp only [adr_some]
      refine l_ex (fun w h => row_open (by omega) (h.ext (X := row 27 8 (.slice (some ⟨g, 0, none⟩) d.xs.length d.c) d.xs.length ((mixF alX d.xs i).flatMap lstCells)) (by first | ((repeat (first | exact Ext.head | apply Ext.tail)); done) | fail))) ?_
      rintro ⟨g', junk⟩ ⟨hgg, hg1, hg2, hg3⟩
      injection hgg with hgg
      injection hgg with hgg
      subst hgg
      dsimp only at hg3 ⊢
      have ho1 : 0 + (i * 8 + 6) < ((mixF alX d.xs i).flatMap lstCells ++ junk).length := by rw [hg3]; omega
      have ho2 : 0 + (i * 8 + 7) < ((mixF alX d.xs i).flatMap lstCells ++ junk).length := by rw [hg3]; omega
      have ho3 : 0 + (i * 8 + 7) < (((mixF alX d.xs i).flatMap lstCells ++ junk).set (0 + (i * 8 + 6)) (.bool (decide ((c.a0 : Int) = 1)))).length := by rw [List.length_set]; exact ho2
      (repeat (first | (refine i_dst ?_; (first | (refine i_move ?_; refine l_q rfl rfl rfl (q_move rfl) ?_) | (refine i_bin ?_; refine l_q rfl rfl rfl (by (exact q_add rfl rfl (by (exact wr_i64 (by omega))))) ?_) | (refine l_q rfl rfl rfl (by (first | (apply iq_fld; (exact q_fieldAddr tab rfl rfl rfl rfl rfl rfl rfl)) | (apply iq_nck; (exact q_nilck rfl)))) ?_))) | refine c_region ?_ | refine l_nil ?_ | (refine i_q ?_; (first | refine d_then ?_ | refine t_then ?_ | refine t_block ?_)) | (refine i_store ?_; ((refine l_setI tab rfl rfl rfl rfl (by first | ((repeat (first | exact Upd.head | apply Upd.tail)); done) | fail) (by (omega)) ?_)))))
      refine k_again (i + 1) (by omega) (by omega) (by first | ((repeat (first | exact trivial | exact rfl | apply Sub.cons | exact look_int rfl (by omega) | exact look_int rfl (by simp) | exact look_int rfl (by simp; omega))); done) | fail) (fun w h => ?_)
      rw [Nat.zero_add, Nat.zero_add] at h
      rw [show decide ((c.a0 : Int) = 1) = true from decide_eq_true (by omega), al_cells hx hch] at h
      have h1 := row_shut (n := d.xs.length) (c := d.c) hg1 hg2 (by rw [length_flat len_lst, mixF_len]) (by rw [List.length_append, length_flat len_lst, mixF_len]; rw [List.length_append, length_flat len_lst, mixF_len] at hg3; exact hg3) (h.ext (X := blk g ((mixF alX d.xs (i + 1)).flatMap lstCells ++ junk) 27) (by first | ((repeat (first | exact Ext.head | apply Ext.tail)); done) | fail))
      exact h1.psub (by first | ((repeat (first | exact PSub.nil | exact Ext.head | apply Ext.tail | apply PSub.cons)); done) | fail)
    | false =>
      (repeat (first | (refine i_dst ?_; (first | (refine i_move ?_; refine l_q rfl rfl rfl (q_move rfl) ?_) | (refine i_assign ?_; refine l_q rfl rfl rfl (q_assign rfl) ?_) | (refine i_load ?_; refine l_q rfl rfl rfl (by (first | (exact q_ld1 tab rfl rfl rfl (by first | ((repeat (first | exact List.Mem.head _ | apply List.Mem.tail)); done) | fail) (by (rfl))) | (exact q_ldF tab rfl rfl rfl (by ((exact fun w h => row_src (h.mem (by first | ((repeat (first | exact List.Mem.head _ | apply List.Mem.tail)); done) | fail))))) (by exact fun _ => rfl) (by assumption) (by exact rfl)))) ?_) | (refine i_bin ?_; refine l_q rfl rfl rfl (by (first | exact q_lss rfl rfl | exact q_eql rfl rfl)) ?_) | (refine i_ix ?_; refine l_q rfl rfl rfl (by (first | exact q_indexAddrA1 tab rfl rfl rfl rfl (by omega) | (exact q_ixSN tab rfl rfl rfl rfl (by ((exact fun w h => row_src (h.mem (by first | ((repeat (first | exact List.Mem.head _ | apply List.Mem.tail)); done) | fail))))) (by first | (with_reducible exact Int.toNat_natCast _) | (with_reducible exact Int.toNat_zero) | (with_reducible exact Int.toNat_one) | rfl) (by (omega)) (by (omega))))) ?_) | (refine l_q rfl rfl rfl (by (first | (apply iq_fld; (first | exact q_fieldAddr tab rfl rfl rfl rfl rfl rfl rfl | (exact q_fldS tab rfl rfl rfl rfl rfl rfl rfl (by ((exact fun w h => row_src (h.mem (by first | ((repeat (first | exact List.Mem.head _ | apply List.Mem.tail)); done) | fail))))) (by (omega))))) | (apply iq_nck; (first | exact q_nilck rfl | (exact q_nckS rfl (by ((exact fun w h => row_src (h.mem (by first | ((repeat (first | exact List.Mem.head _ | apply List.Mem.tail)); done) | fail))))) (by (omega))))) | exact q_pick_f rfl rfl)) ?_))) | refine d_seq ?_ | refine c_region ?_ | refine l_nil ?_ | refine c_block ?_ | (refine i_q ?_; (refine d_then ?_)) | refine c_skip ?_ | (refine i_guard ?_; (first | refine l_gt rfl rfl rfl ?_ | refine l_gtd rfl rfl rfl (by (assumption)) ?_)) | (refine i_cond ?_; (first | refine c_ct rfl (by (exact decide_eq_true (by omega))) ?_ | refine c_cf rfl (by (exact decide_eq_false (by omega))) ?_))))
      rw [hg]
      simp only [adr_some]
      refine l_ex (fun w h => row_open (by omega) (h.ext (X := row 27 8 (.slice (some ⟨g, 0, none⟩) d.xs.length d.c) d.xs.length ((mixF alX d.xs i).flatMap lstCells)) (by first | ((repeat (first | exact Ext.head | apply Ext.tail)); done) | fail))) ?_
      rintro ⟨g', junk⟩ ⟨hgg, hg1, hg2, hg3⟩
      injection hgg with hgg
      injection hgg with hgg
      subst hgg
      dsimp only at hg3 ⊢
      have ho1 : 0 + (i * 8 + 6) < ((mixF alX d.xs i).flatMap lstCells ++ junk).length := by rw [hg3]; omega
      have ho2 : 0 + (i * 8 + 7) < ((mixF alX d.xs i).flatMap lstCells ++ junk).length := by rw [hg3]; omega
      (repeat (first | (refine i_dst ?_; (first | (refine i_move ?_; refine l_q rfl rfl rfl (q_move rfl) ?_) | (refine i_bin ?_; refine l_q rfl rfl rfl (by (exact q_add rfl rfl (by (exact wr_i64 (by omega))))) ?_))) | refine c_region ?_ | refine l_nil ?_ | (refine i_q ?_; (first | refine d_then ?_ | refine t_then ?_ | refine t_block ?_)) | (refine i_store ?_; ((refine l_setI tab rfl rfl rfl rfl (by first | ((repeat (first | exact Upd.head | apply Upd.tail)); done) | fail) (by (omega)) ?_)))))
      refine k_again (i + 1) (by omega) (by omega) (by first | ((repeat (first | exact trivial | exact rfl | apply Sub.cons | exact look_int rfl (by omega) | exact look_int rfl (by simp) | exact look_int rfl (by simp; omega))); done) | fail) (fun w h => ?_)
      rw [Nat.zero_add] at h
      rw [al_cells0 hx hch hxo] at h
      have h1 := row_shut (n := d.xs.length) (c := d.c) hg1 hg2 (by rw [length_flat len_lst, mixF_len]) (by rw [List.length_append, length_flat len_lst, mixF_len]; rw [List.length_append, length_flat len_lst, mixF_len] at hg3; exact hg3) (h.ext (X := blk g ((mixF alX d.xs (i + 1)).flatMap lstCells ++ junk) 27) (by first | ((repeat (first | exact Ext.head | apply Ext.tail)); done) | fail))
      exact h1.psub (by first | ((repeat (first | exact PSub.nil | exact Ext.head | apply Ext.tail | apply PSub.cons)); done) | fail)
  · obtain rfl : i = d.xs.length := by omega
    rw [mixF_all]
    (repeat (first | (refine i_dst ?_; (first | (refine i_assign ?_; refine l_q rfl rfl rfl (q_assign rfl) ?_) | (refine i_bin ?_; refine l_q rfl rfl rfl (by (exact q_lss rfl rfl)) ?_))) | refine d_seq ?_ | refine c_region ?_ | refine l_nil ?_ | (refine i_q ?_; (first | refine d_then ?_ | refine d_then_exit ?_ | refine t_then_exit ?_ | refine t_block_eq rfl ?_)) | refine c_exit ?_ | refine c_ret ?_ | (refine i_cond ?_; ((refine c_cf rfl (by (((first | (simp; done) | fail)))) ?_)))))
    refine t_hp (hp' := dqL p ⟨d.step, d.A, d.c, d.xs.map alX, d.pv⟩) (fun w h => ?_) (t_ret2 Try.results51 rfl rfl (.inr ⟨_, _, rfl, rfl, alX_ok hok0, fun h => absurd hc h, ⟨by omega, by omega, by omega, by omega, fun _ => ?_⟩⟩))
    · unfold dqL
      dsimp only
      rw [List.length_map, alX_map]
      exact h.psub (by first | ((repeat (first | exact PSub.nil | exact Ext.head | apply Ext.tail | apply PSub.cons)); done) | fail)
    · rw [lsOf, lsOf, List.map_map, List.map_map]
      rfl
end Go.Proofs.Ytboccjdncdaakaa

/-
  Four results.
-/

set_option linter.unusedVariables false
set_option maxRecDepth 100000
namespace Go.Proofs.Ytboccjdncdaakaa
open Go.RowKit
theorem t_ret4 {P : Program} {n : Nat} {env : Env} {hp : List Asn} {fn : Func} {w : World} {A : List Asn} {R : Value → List Asn → Prop} {t1 t2 t3 t4 : Nat} {v1 v2 v3 v4 : Value} (hr : fn.results = #[.tmp t1, .tmp t2, .tmp t3, .tmp t4]) (h1 : look env t1 = some v1) (h2 : look env t2 = some v2) (h3 : look env t3 = some v3) (h4 : look env t4 = some v4) (h : R (.tuple #[v1, v2, v3, v4]) hp) : TQ n (fps A) w (bodyPost P fn (Ret w A R)) .ret env hp := fun a w' hE hS => by
  refine ⟨hE.defers, _, ?_, _, _, rfl, h, hS⟩
  have e1 := hE.at_ t1 v1 h1
  have e2 := hE.at_ t2 v2 h2
  have e3 := hE.at_ t3 v3 h3
  have e4 := hE.at_ t4 v4 h4
  simp [results, hr, e1, e2, e3, e4]
end Go.Proofs.Ytboccjdncdaakaa

/-
  cmd.Shape, needs, walked.
-/

set_option linter.unusedVariables false
set_option maxRecDepth 100000
namespace Go.Proofs.Ytboccjdncdaakaa
open Go.RowKit
attribute [local irreducible] TL TC TQ TK TO Qt TA
/-- How many small numbers, whether a great one, how many bytes. -/
def shapeM : Nat → Option (Nat × Bool × Nat)
  | 1 => some (1, false, 0)
  | 2 => some (0, false, 0)
  | 3 => some (0, false, 0)
  | 4 => some (0, false, 0)
  | 5 => some (1, true, 0)
  | 6 => some (1, false, 0)
  | 7 => some (2, true, 0)
  | 8 => some (1, false, 6)
  | 9 => some (1, false, 6)
  | 10 => some (0, false, 7)
  | 11 => some (1, true, 0)
  | 12 => some (2, false, 0)
  | 13 => some (1, false, 6)
  | 14 => some (1, true, 0)
  | 15 => some (3, false, 0)
  | 16 => some (2, false, 0)
  | 17 => some (3, false, 0)
  | 18 => some (0, false, 0)
  | 19 => some (1, false, 0)
  | 20 => some (2, false, 0)
  | 21 => some (3, false, 0)
  | 22 => some (3, false, 0)
  | 23 => some (2, true, 0)
  | 24 => some (5, false, 0)
  | 25 => some (2, false, 0)
  | 26 => some (1, false, 0)
  | _ => none
def shV : Option (Nat × Bool × Nat) → Value
  | some (s, g, n) => .tuple #[.int .i64 s, .bool g, .int .i64 n, .bool true]
  | none => .tuple #[.int .i64 0, .bool false, .int .i64 0, .bool false]
/-- The shapes that there are. -/
theorem shape_some {code s n : Nat} {g : Bool} (h : shapeM code = some (s, g, n)) : (s ≤ 5 ∧ (n = 0 ∨ n = 6 ∨ n = 7)) ∧ (g = true → s ≤ 2 ∧ n = 0) ∧ (n = 6 → s = 1) ∧ (n = 7 → s = 0) ∧ code ≤ 26 := by
  unfold shapeM at h
  split at h <;> first | (cases h; done) | (injection h with h; injection h with h1 h; injection h with h2 h3; subst h1 h2 h3; refine ⟨⟨by omega, by omega⟩, fun h => by first | (cases h; done) | omega, fun h => by omega, fun h => by omega, by omega⟩)
theorem shapeM_none {code : Nat} (h : code = 0 ∨ 27 ≤ code) : shapeM code = none := by
  unfold shapeM
  split <;> first | rfl | (exfalso; omega)
attribute [local irreducible] blk row bytesA starL memA segA roB
set_option maxHeartbeats 16000000 in
theorem shape_spec (code : Nat) (hc : code ≤ 255) (w : World) : Calls Try.prog 41 #[.int .u8 code] w (Ret w [] fun v B => v = shV (shapeM code) ∧ B = []) := by
  by_cases h0 : code = 0 ∨ 27 ≤ code
  · rw [shapeM_none h0]
    refine enter (vs := [.int .u8 code]) Try.func41 rfl Try.ntmps41 rfl (Hold.nil w) ?_
    (repeat (first | (refine i_dst ?_; (first | (refine i_move ?_; refine l_q rfl rfl rfl (q_move rfl) ?_) | (refine i_assign ?_; refine l_q rfl rfl rfl (q_assign rfl) ?_) | (refine i_bin ?_; refine l_q rfl rfl rfl (by (exact q_eql rfl rfl)) ?_))) | refine d_seq ?_ | refine c_region ?_ | refine l_nil ?_ | refine c_block ?_ | (refine i_q ?_; (first | refine d_then ?_ | refine d_then_ret ?_ | refine t_block_ret ?_)) | refine c_ret ?_ | (refine i_cond ?_; (refine c_cf rfl (by (exact decide_eq_false (by omega))) ?_))))
    exact t_ret4 Try.results41 rfl rfl rfl rfl ⟨rfl, rfl⟩
  · refine enter (vs := [.int .u8 code]) Try.func41 rfl Try.ntmps41 rfl (Hold.nil w) ?_
    rcases (by omega : code = 1 ∨ code = 2 ∨ code = 3 ∨ code = 4 ∨ code = 5 ∨ code = 6 ∨ code = 7 ∨ code = 8 ∨ code = 9 ∨ code = 10 ∨ code = 11 ∨ code = 12 ∨ code = 13 ∨ code = 14 ∨ code = 15 ∨ code = 16 ∨ code = 17 ∨ code = 18 ∨ code = 19 ∨ code = 20 ∨ code = 21 ∨ code = 22 ∨ code = 23 ∨ code = 24 ∨ code = 25 ∨ code = 26) with rfl | rfl | rfl | rfl | rfl | rfl | rfl | rfl | rfl | rfl | rfl | rfl | rfl | rfl | rfl | rfl | rfl | rfl | rfl | rfl | rfl | rfl | rfl | rfl | rfl | rfl
    all_goals (
      (repeat (first | (refine i_dst ?_; (first | (refine i_move ?_; refine l_q rfl rfl rfl (q_move rfl) ?_) | (refine i_assign ?_; refine l_q rfl rfl rfl (q_assign rfl) ?_) | (refine i_bin ?_; refine l_q rfl rfl rfl (by (exact q_eql rfl rfl)) ?_))) | refine d_seq ?_ | refine c_region ?_ | refine l_nil ?_ | refine c_block ?_ | (refine i_q ?_; (first | refine d_then ?_ | refine t_block ?_)) | refine c_skip ?_ | refine c_ret ?_ | (refine i_cond ?_; (first | refine c_ct rfl (by (rfl)) ?_ | refine c_cf rfl (by (rfl)) ?_))))
      exact t_ret4 Try.results41 rfl rfl rfl rfl ⟨rfl, rfl⟩)
def needsC (n a0 : Nat) : Nat := if n = 6 then min 6 a0 else n
theorem cneeds_spec (code a0 a1 a2 a3 a4 w32 : Nat) (h0 : a0 ≤ 255) (u : Value) (n : Nat) (w : World) (hu : u.oneCell' = true) : Calls Try.prog 55 #[.agg #[.int .u8 code, .int .u8 a0, .int .u8 a1, .int .u8 a2, .int .u8 a3, .int .u8 a4, .int .u32 w32, u], .int .i64 n] w (Ret w [] fun v B => v = .int .i64 (needsC n a0 : Nat) ∧ B = []) := by
  refine enter (vs := [.agg #[.int .u8 code, .int .u8 a0, .int .u8 a1, .int .u8 a2, .int .u8 a3, .int .u8 a4, .int .u32 w32, u], .int .i64 n]) Try.func55 rfl Try.ntmps55 rfl (Hold.nil w) ?_
  unfold needsC
  by_cases h6 : n = 6
  · subst h6
    rw [if_pos rfl]
    (repeat (first | (refine i_dst ?_; (first | (refine i_move ?_; refine l_q rfl rfl rfl (q_move rfl) ?_) | (refine i_assign ?_; refine l_q rfl rfl rfl (q_assign rfl) ?_) | (refine i_load ?_; refine l_q rfl rfl rfl (by ((exact q_ld1 tab rfl rfl rfl (by first | ((repeat (first | exact List.Mem.head _ | apply List.Mem.tail)); done) | fail) (by (rfl))))) ?_) | (refine i_bin ?_; refine l_q rfl rfl rfl (by (exact q_eql rfl rfl)) ?_) | (refine i_blt ?_; refine l_q rfl rfl rfl (by (exact q_minN rfl rfl)) ?_) | (refine i_ix ?_; refine l_q rfl rfl rfl (by (exact q_indexAddrA1 tab rfl rfl rfl rfl (by omega))) ?_) | (refine i_box ?_; (refine l_boxA rfl rfl (fun _ => ?_))) | (refine l_q rfl rfl rfl (by (first | (apply iq_fld; (exact q_fieldAddr tab rfl rfl rfl rfl rfl rfl rfl)) | (apply iq_cv; (exact q_conv tab rfl rfl rfl (by (exact wr_i64 (by omega))))))) ?_))) | refine d_seq ?_ | refine c_region ?_ | refine l_nil ?_ | (refine i_q ?_; (first | refine d_then ?_ | refine d_then_ret ?_)) | refine c_ret ?_ | (refine i_cond ?_; (refine c_ct rfl (by (rfl)) ?_))))
    exact t_hp (hp' := []) (fun w h => h.psub (by first | ((repeat (first | exact PSub.nil | exact Ext.head | apply Ext.tail | apply PSub.cons)); done) | fail)) (t_ret1 Try.results55 rfl ⟨rfl, rfl⟩)
  · rw [if_neg h6]
    (repeat (first | (refine i_dst ?_; (first | (refine i_move ?_; refine l_q rfl rfl rfl (q_move rfl) ?_) | (refine i_assign ?_; refine l_q rfl rfl rfl (q_assign rfl) ?_) | (refine i_bin ?_; refine l_q rfl rfl rfl (by (exact q_eql rfl rfl)) ?_) | (refine i_box ?_; (refine l_boxA rfl rfl (fun _ => ?_))))) | refine d_seq ?_ | refine c_region ?_ | refine l_nil ?_ | (refine i_q ?_; (refine d_then ?_)) | refine c_skip ?_ | refine c_ret ?_ | (refine i_cond ?_; (refine c_cf rfl (by (exact decide_eq_false (by omega))) ?_))))
    exact t_hp (hp' := []) (fun w h => h.psub (by first | ((repeat (first | exact PSub.nil | exact Ext.head | apply Ext.tail | apply PSub.cons)); done) | fail)) (t_ret1 Try.results55 rfl ⟨rfl, rfl⟩)
end Go.Proofs.Ytboccjdncdaakaa

/-
  cmd.fits, walked.
-/

set_option linter.unusedVariables false
set_option maxRecDepth 100000
namespace Go.Proofs.Ytboccjdncdaakaa
open Go.RowKit
attribute [local irreducible] TL TC TQ TK TO Qt TA
/-- The first s of five numbers; then nothing. -/
def zb (s : Nat) (l : List Nat) : List Nat := l.take s ++ List.replicate (5 - s) 0
structure FitsOk (code a0 a1 a2 a3 a4 w32 n : Nat) (s : Nat) (g : Bool) (m : Nat) : Prop where
  sh : shapeM code = some (s, g, m)
  z : [a0, a1, a2, a3, a4] = zb s [a0, a1, a2, a3, a4]
  w : g = false → w32 = 0
  n : n = needsC m a0
attribute [local irreducible] blk row bytesA starL memA segA roB
set_option maxHeartbeats 16000000 in
theorem fits_spec (code a0 a1 a2 a3 a4 w32 : Nat) (hcd : code ≤ 255) (h0 : a0 ≤ 255) (A : Option Addr) (n c : Nat) (w : World) : Calls Try.prog 40 #[.agg #[.int .u8 code, .int .u8 a0, .int .u8 a1, .int .u8 a2, .int .u8 a3, .int .u8 a4, .int .u32 w32, .slice A n c]] w (Ret w [] fun v B => ∃ b, v = .bool b ∧ B = [] ∧ (b = true → ∃ s g m, FitsOk code a0 a1 a2 a3 a4 w32 n s g m)) := by
  refine enter (vs := [.agg #[.int .u8 code, .int .u8 a0, .int .u8 a1, .int .u8 a2, .int .u8 a3, .int .u8 a4, .int .u32 w32, .slice A n c]]) Try.func40 rfl Try.ntmps40 rfl (Hold.nil w) ?_
  have hmx : maxLen = 2 ^ 63 - 1 := rfl
  (repeat (first | (refine i_dst ?_; (first | (refine i_assign ?_; refine l_q rfl rfl rfl (q_assign rfl) ?_) | (refine i_load ?_; refine l_q rfl rfl rfl (by ((exact q_ld1 tab rfl rfl rfl (by first | ((repeat (first | exact List.Mem.head _ | apply List.Mem.tail)); done) | fail) (by (rfl))))) ?_) | (refine i_box ?_; (refine l_boxA rfl rfl (fun _ => ?_))) | (refine l_q rfl rfl rfl (by ((apply iq_fld; (exact q_fieldAddr tab rfl rfl rfl rfl rfl rfl rfl)))) ?_))) | refine d_seq ?_ | refine c_region ?_ | refine l_nil ?_ | (refine i_q ?_; (refine d_then ?_))))
  rename_i b1
  (refine l_call0 rfl rfl Try.func41 rfl (by decide) (fun w' h => shape_spec code hcd w') (fun v B hv => ?_); obtain ⟨rfl, rfl⟩ := hv)
  rcases hs : shapeM code with _ | ⟨s, g, m⟩
  · rw [shV]
    (repeat (first | (refine i_dst ?_; (first | (refine i_move ?_; refine l_q rfl rfl rfl (q_move rfl) ?_) | (refine i_assign ?_; refine l_q rfl rfl rfl (q_assign rfl) ?_) | (refine i_alloc ?_; (refine l_allocA tab rfl rfl (fun _ => ?_))) | refine l_q rfl rfl rfl (by (exact q_extract rfl rfl)) ?_)) | refine d_seq ?_ | refine c_region ?_ | refine l_nil ?_ | (refine i_q ?_; (refine d_then ?_))))
    rename_i b7
    (refine a_begin mixed [blk b1 [.int .u8 code, .int .u8 a0, .int .u8 a1, .int .u8 a2, .int .u8 a3, .int .u8 a4, .int .u32 w32, .slice A n c] 59] 6 rfl (fun w h => h.subl (by first | ((repeat (first | exact SubL.nil | apply SubL.keep | apply SubL.skip)); done) | fail)) ?_)
    refine a_q 0 rfl rfl rfl rfl rfl (by decide +kernel) (q_move rfl) ?_
    refine a_q 1 rfl rfl rfl rfl rfl (by decide +kernel) (q_arHi (h := 0) tab rfl rfl rfl rfl (by omega) (by omega)) ?_
    refine a_q 2 rfl rfl rfl rfl rfl (by decide +kernel) (q_fieldAddr tab rfl rfl rfl rfl rfl rfl rfl) ?_
    refine a_q 3 rfl rfl rfl rfl rfl (by decide +kernel) (q_move rfl) ?_
    refine a_q 4 rfl rfl rfl rfl rfl (by decide +kernel) (q_arHi (h := 0) tab rfl rfl rfl rfl (by omega) (by omega)) ?_
    refine a_e 5 rfl (by decide +kernel) rfl (fun K hK => e_copy tab (i := 0) (news := []) rfl rfl rfl rfl rfl rfl (by simp) (fun w h => ⟨rfl, fun _ => ⟨b1, 1, rfl, blk_cells (q := 0) (h.mem (X := blk b1 [.int .u8 code, .int .u8 a0, .int .u8 a1, .int .u8 a2, .int .u8 a3, .int .u8 a4, .int .u32 w32, .slice A n c] 59) (by first | ((repeat (first | exact List.Mem.head _ | apply List.Mem.tail)); done) | fail)) rfl⟩⟩) (by simp [Value.oneCell']) (hK _ _ (fun w h => h.subl (by first | ((repeat (first | exact SubL.nil | apply SubL.keep | apply SubL.skip)); done) | fail)) ?_))
    clear hK
    refine a_done (by decide +kernel) ?_
    refine t_hp (hp' := [blk b1 [.int .u8 code, .int .u8 a0, .int .u8 a1, .int .u8 a2, .int .u8 a3, .int .u8 a4, .int .u32 w32, .slice A n c] 59, blk b7 [.int .u8 0, .int .u8 0, .int .u8 0, .int .u8 0, .int .u8 0] 57]) (fun w h => h.psub (by first | ((repeat (first | exact PSub.nil | exact Ext.head | apply Ext.tail | apply PSub.cons)); done) | fail)) ?_
    (repeat (first | refine d_seq ?_ | (refine i_q ?_; (refine d_then ?_))))
    (refine a_begin mixed _ 25 rfl (fun w h => h) ?_)
    refine a_q 0 rfl rfl rfl rfl rfl (by decide +kernel) (q_move rfl) ?_
    refine a_q 1 rfl rfl rfl rfl rfl (by decide +kernel) (q_move rfl) ?_
    refine a_gf 2 rfl rfl rfl rfl rfl rfl rfl rfl (by decide +kernel) ?_
    refine a_gf 3 rfl rfl rfl rfl rfl rfl rfl rfl (by decide +kernel) ?_
    refine a_gf 4 rfl rfl rfl rfl rfl rfl rfl rfl (by decide +kernel) ?_
    refine a_gf 5 rfl rfl rfl rfl rfl rfl rfl rfl (by decide +kernel) ?_
    refine a_q 6 rfl rfl rfl rfl rfl (by decide +kernel) (q_pick_f rfl rfl) ?_
    refine a_q 7 rfl rfl rfl rfl rfl (by decide +kernel) (q_move rfl) ?_
    refine a_gf 8 rfl rfl rfl rfl rfl rfl rfl rfl (by decide +kernel) ?_
    refine a_gf 9 rfl rfl rfl rfl rfl rfl rfl rfl (by decide +kernel) ?_
    refine a_gu 10 rfl rfl rfl rfl rfl rfl rfl (by decide +kernel) ?_
    refine a_gu 11 rfl rfl rfl rfl rfl rfl rfl (by decide +kernel) ?_
    refine a_gu 12 rfl rfl rfl rfl rfl rfl rfl (by decide +kernel) ?_
    refine a_gf 13 rfl rfl rfl rfl rfl rfl rfl rfl (by decide +kernel) ?_
    refine a_q 14 rfl rfl rfl rfl rfl (by decide +kernel) (q_pick_f rfl rfl) ?_
    refine a_q 15 rfl rfl rfl rfl rfl (by decide +kernel) (q_move rfl) ?_
    refine a_gf 16 rfl rfl rfl rfl rfl rfl rfl rfl (by decide +kernel) ?_
    refine a_gf 17 rfl rfl rfl rfl rfl rfl rfl rfl (by decide +kernel) ?_
    refine a_gf 18 rfl rfl rfl rfl rfl rfl rfl rfl (by decide +kernel) ?_
    refine a_gf 19 rfl rfl rfl rfl rfl rfl rfl rfl (by decide +kernel) ?_
    refine a_gf 20 rfl rfl rfl rfl rfl rfl rfl rfl (by decide +kernel) ?_
    refine a_gf 21 rfl rfl rfl rfl rfl rfl rfl rfl (by decide +kernel) ?_
    refine a_gf 22 rfl rfl rfl rfl rfl rfl rfl rfl (by decide +kernel) ?_
    refine a_q 23 rfl rfl rfl rfl rfl (by decide +kernel) (q_pick_f rfl rfl) ?_
    refine a_q 24 rfl rfl rfl rfl rfl (by decide +kernel) (q_assign rfl) ?_
    refine a_done (by decide +kernel) ?_
    (repeat (first | (refine i_q ?_; (refine d_then ?_)) | refine c_ret ?_))
    exact t_hp (hp' := []) (fun w h => h.psub (by first | ((repeat (first | exact PSub.nil | exact Ext.head | apply Ext.tail | apply PSub.cons)); done) | fail)) (t_ret1 Try.results40 rfl ⟨false, rfl, rfl, fun h => (by cases h)⟩)
  · obtain ⟨⟨hs5, -⟩, -⟩ := shape_some hs
    rw [shV]
    (repeat (first | (refine i_dst ?_; (first | (refine i_move ?_; refine l_q rfl rfl rfl (q_move rfl) ?_) | (refine i_assign ?_; refine l_q rfl rfl rfl (q_assign rfl) ?_) | (refine i_alloc ?_; (refine l_allocA tab rfl rfl (fun _ => ?_))) | refine l_q rfl rfl rfl (by (exact q_extract rfl rfl)) ?_)) | refine d_seq ?_ | refine c_region ?_ | refine l_nil ?_ | (refine i_q ?_; (refine d_then ?_))))
    rename_i b7
    (refine a_begin mixed [blk b1 [.int .u8 code, .int .u8 a0, .int .u8 a1, .int .u8 a2, .int .u8 a3, .int .u8 a4, .int .u32 w32, .slice A n c] 59] 6 rfl (fun w h => h.subl (by first | ((repeat (first | exact SubL.nil | apply SubL.keep | apply SubL.skip)); done) | fail)) ?_)
    refine a_joinP (α := Nat × Nat × Nat × Nat × Nat) (fun z => [z.1, z.2.1, z.2.2.1, z.2.2.2.1, z.2.2.2.2] = zb s [a0, a1, a2, a3, a4]) (fun _ => []) [1, 3, 4, 5, 6, 7] (by first | ((repeat (first | exact Pick.nil | exact rfl | apply Pick.cons)); done) | fail) (fun z => [blk b1 [.int .u8 code, .int .u8 a0, .int .u8 a1, .int .u8 a2, .int .u8 a3, .int .u8 a4, .int .u32 w32, .slice A n c] 59, blk b7 [.int .u8 z.1, .int .u8 z.2.1, .int .u8 z.2.2.1, .int .u8 z.2.2.2.1, .int .u8 z.2.2.2.2] 57]) ?_ (fun key => ?_)
    rotate_left
    · rcases (by omega : s = 0 ∨ s = 1 ∨ s = 2 ∨ s = 3 ∨ s = 4 ∨ s = 5) with rfl | rfl | rfl | rfl | rfl | rfl
      · refine a_q 0 rfl rfl rfl rfl rfl (by decide +kernel) (q_move rfl) ?_
        refine a_q 1 rfl rfl rfl rfl rfl (by decide +kernel) (q_arHi (h := 0) tab rfl rfl rfl rfl (by omega) (by omega)) ?_
        refine a_q 2 rfl rfl rfl rfl rfl (by decide +kernel) (q_fieldAddr tab rfl rfl rfl rfl rfl rfl rfl) ?_
        refine a_q 3 rfl rfl rfl rfl rfl (by decide +kernel) (q_move rfl) ?_
        refine a_q 4 rfl rfl rfl rfl rfl (by decide +kernel) (q_arHi (h := 0) tab rfl rfl rfl rfl (by omega) (by omega)) ?_
        refine a_e 5 rfl (by decide +kernel) rfl (fun K hK => e_copy tab (i := 0) (news := []) rfl rfl rfl rfl rfl rfl (by simp) (fun w h => ⟨rfl, fun _ => ⟨b1, 1, rfl, blk_cells (q := 0) (h.mem (X := blk b1 [.int .u8 code, .int .u8 a0, .int .u8 a1, .int .u8 a2, .int .u8 a3, .int .u8 a4, .int .u32 w32, .slice A n c] 59) (by first | ((repeat (first | exact List.Mem.head _ | apply List.Mem.tail)); done) | fail)) rfl⟩⟩) (by simp [Value.oneCell']) (hK _ _ (fun w h => h.subl (by first | ((repeat (first | exact SubL.nil | apply SubL.keep | apply SubL.skip)); done) | fail)) ?_))
        clear hK
        refine a_done (by decide +kernel) ?_
        exact key (0, 0, 0, 0, 0) rfl _ _ (by first | ((repeat (first | exact trivial | exact rfl | apply Sub.cons | exact look_int rfl (by omega) | exact look_int rfl (by simp) | exact look_int rfl (by simp; omega))); done) | fail) (fun w h => h.psub (by first | ((repeat (first | exact PSub.nil | exact Ext.head | apply Ext.tail | apply PSub.cons)); done) | fail))
      · refine a_q 0 rfl rfl rfl rfl rfl (by decide +kernel) (q_move rfl) ?_
        refine a_q 1 rfl rfl rfl rfl rfl (by decide +kernel) (q_arHi (h := 1) tab rfl rfl rfl rfl (by omega) (by omega)) ?_
        refine a_q 2 rfl rfl rfl rfl rfl (by decide +kernel) (q_fieldAddr tab rfl rfl rfl rfl rfl rfl rfl) ?_
        refine a_q 3 rfl rfl rfl rfl rfl (by decide +kernel) (q_move rfl) ?_
        refine a_q 4 rfl rfl rfl rfl rfl (by decide +kernel) (q_arHi (h := 1) tab rfl rfl rfl rfl (by omega) (by omega)) ?_
        refine a_e 5 rfl (by decide +kernel) rfl (fun K hK => e_copy tab (i := 0) (news := [.int .u8 a0]) rfl rfl rfl rfl rfl rfl (by simp) (fun w h => ⟨rfl, fun _ => ⟨b1, 1, rfl, blk_cells (q := 1) (h.mem (X := blk b1 [.int .u8 code, .int .u8 a0, .int .u8 a1, .int .u8 a2, .int .u8 a3, .int .u8 a4, .int .u32 w32, .slice A n c] 59) (by first | ((repeat (first | exact List.Mem.head _ | apply List.Mem.tail)); done) | fail)) rfl⟩⟩) (by simp [Value.oneCell']) (hK _ _ (fun w h => h.subl (by first | ((repeat (first | exact SubL.nil | apply SubL.keep | apply SubL.skip)); done) | fail)) ?_))
        clear hK
        refine a_done (by decide +kernel) ?_
        exact key (a0, 0, 0, 0, 0) rfl _ _ (by first | ((repeat (first | exact trivial | exact rfl | apply Sub.cons | exact look_int rfl (by omega) | exact look_int rfl (by simp) | exact look_int rfl (by simp; omega))); done) | fail) (fun w h => h.psub (by first | ((repeat (first | exact PSub.nil | exact Ext.head | apply Ext.tail | apply PSub.cons)); done) | fail))
      · refine a_q 0 rfl rfl rfl rfl rfl (by decide +kernel) (q_move rfl) ?_
        refine a_q 1 rfl rfl rfl rfl rfl (by decide +kernel) (q_arHi (h := 2) tab rfl rfl rfl rfl (by omega) (by omega)) ?_
        refine a_q 2 rfl rfl rfl rfl rfl (by decide +kernel) (q_fieldAddr tab rfl rfl rfl rfl rfl rfl rfl) ?_
        refine a_q 3 rfl rfl rfl rfl rfl (by decide +kernel) (q_move rfl) ?_
        refine a_q 4 rfl rfl rfl rfl rfl (by decide +kernel) (q_arHi (h := 2) tab rfl rfl rfl rfl (by omega) (by omega)) ?_
        refine a_e 5 rfl (by decide +kernel) rfl (fun K hK => e_copy tab (i := 0) (news := [.int .u8 a0, .int .u8 a1]) rfl rfl rfl rfl rfl rfl (by simp) (fun w h => ⟨rfl, fun _ => ⟨b1, 1, rfl, blk_cells (q := 2) (h.mem (X := blk b1 [.int .u8 code, .int .u8 a0, .int .u8 a1, .int .u8 a2, .int .u8 a3, .int .u8 a4, .int .u32 w32, .slice A n c] 59) (by first | ((repeat (first | exact List.Mem.head _ | apply List.Mem.tail)); done) | fail)) rfl⟩⟩) (by simp [Value.oneCell']) (hK _ _ (fun w h => h.subl (by first | ((repeat (first | exact SubL.nil | apply SubL.keep | apply SubL.skip)); done) | fail)) ?_))
        clear hK
        refine a_done (by decide +kernel) ?_
        exact key (a0, a1, 0, 0, 0) rfl _ _ (by first | ((repeat (first | exact trivial | exact rfl | apply Sub.cons | exact look_int rfl (by omega) | exact look_int rfl (by simp) | exact look_int rfl (by simp; omega))); done) | fail) (fun w h => h.psub (by first | ((repeat (first | exact PSub.nil | exact Ext.head | apply Ext.tail | apply PSub.cons)); done) | fail))
      · refine a_q 0 rfl rfl rfl rfl rfl (by decide +kernel) (q_move rfl) ?_
        refine a_q 1 rfl rfl rfl rfl rfl (by decide +kernel) (q_arHi (h := 3) tab rfl rfl rfl rfl (by omega) (by omega)) ?_
        refine a_q 2 rfl rfl rfl rfl rfl (by decide +kernel) (q_fieldAddr tab rfl rfl rfl rfl rfl rfl rfl) ?_
        refine a_q 3 rfl rfl rfl rfl rfl (by decide +kernel) (q_move rfl) ?_
        refine a_q 4 rfl rfl rfl rfl rfl (by decide +kernel) (q_arHi (h := 3) tab rfl rfl rfl rfl (by omega) (by omega)) ?_
        refine a_e 5 rfl (by decide +kernel) rfl (fun K hK => e_copy tab (i := 0) (news := [.int .u8 a0, .int .u8 a1, .int .u8 a2]) rfl rfl rfl rfl rfl rfl (by simp) (fun w h => ⟨rfl, fun _ => ⟨b1, 1, rfl, blk_cells (q := 3) (h.mem (X := blk b1 [.int .u8 code, .int .u8 a0, .int .u8 a1, .int .u8 a2, .int .u8 a3, .int .u8 a4, .int .u32 w32, .slice A n c] 59) (by first | ((repeat (first | exact List.Mem.head _ | apply List.Mem.tail)); done) | fail)) rfl⟩⟩) (by simp [Value.oneCell']) (hK _ _ (fun w h => h.subl (by first | ((repeat (first | exact SubL.nil | apply SubL.keep | apply SubL.skip)); done) | fail)) ?_))
        clear hK
        refine a_done (by decide +kernel) ?_
        exact key (a0, a1, a2, 0, 0) rfl _ _ (by first | ((repeat (first | exact trivial | exact rfl | apply Sub.cons | exact look_int rfl (by omega) | exact look_int rfl (by simp) | exact look_int rfl (by simp; omega))); done) | fail) (fun w h => h.psub (by first | ((repeat (first | exact PSub.nil | exact Ext.head | apply Ext.tail | apply PSub.cons)); done) | fail))
      · refine a_q 0 rfl rfl rfl rfl rfl (by decide +kernel) (q_move rfl) ?_
        refine a_q 1 rfl rfl rfl rfl rfl (by decide +kernel) (q_arHi (h := 4) tab rfl rfl rfl rfl (by omega) (by omega)) ?_
        refine a_q 2 rfl rfl rfl rfl rfl (by decide +kernel) (q_fieldAddr tab rfl rfl rfl rfl rfl rfl rfl) ?_
        refine a_q 3 rfl rfl rfl rfl rfl (by decide +kernel) (q_move rfl) ?_
        refine a_q 4 rfl rfl rfl rfl rfl (by decide +kernel) (q_arHi (h := 4) tab rfl rfl rfl rfl (by omega) (by omega)) ?_
        refine a_e 5 rfl (by decide +kernel) rfl (fun K hK => e_copy tab (i := 0) (news := [.int .u8 a0, .int .u8 a1, .int .u8 a2, .int .u8 a3]) rfl rfl rfl rfl rfl rfl (by simp) (fun w h => ⟨rfl, fun _ => ⟨b1, 1, rfl, blk_cells (q := 4) (h.mem (X := blk b1 [.int .u8 code, .int .u8 a0, .int .u8 a1, .int .u8 a2, .int .u8 a3, .int .u8 a4, .int .u32 w32, .slice A n c] 59) (by first | ((repeat (first | exact List.Mem.head _ | apply List.Mem.tail)); done) | fail)) rfl⟩⟩) (by simp [Value.oneCell']) (hK _ _ (fun w h => h.subl (by first | ((repeat (first | exact SubL.nil | apply SubL.keep | apply SubL.skip)); done) | fail)) ?_))
        clear hK
        refine a_done (by decide +kernel) ?_
        exact key (a0, a1, a2, a3, 0) rfl _ _ (by first | ((repeat (first | exact trivial | exact rfl | apply Sub.cons | exact look_int rfl (by omega) | exact look_int rfl (by simp) | exact look_int rfl (by simp; omega))); done) | fail) (fun w h => h.psub (by first | ((repeat (first | exact PSub.nil | exact Ext.head | apply Ext.tail | apply PSub.cons)); done) | fail))
      · refine a_q 0 rfl rfl rfl rfl rfl (by decide +kernel) (q_move rfl) ?_
        refine a_q 1 rfl rfl rfl rfl rfl (by decide +kernel) (q_arHi (h := 5) tab rfl rfl rfl rfl (by omega) (by omega)) ?_
        refine a_q 2 rfl rfl rfl rfl rfl (by decide +kernel) (q_fieldAddr tab rfl rfl rfl rfl rfl rfl rfl) ?_
        refine a_q 3 rfl rfl rfl rfl rfl (by decide +kernel) (q_move rfl) ?_
        refine a_q 4 rfl rfl rfl rfl rfl (by decide +kernel) (q_arHi (h := 5) tab rfl rfl rfl rfl (by omega) (by omega)) ?_
        refine a_e 5 rfl (by decide +kernel) rfl (fun K hK => e_copy tab (i := 0) (news := [.int .u8 a0, .int .u8 a1, .int .u8 a2, .int .u8 a3, .int .u8 a4]) rfl rfl rfl rfl rfl rfl (by simp) (fun w h => ⟨rfl, fun _ => ⟨b1, 1, rfl, blk_cells (q := 5) (h.mem (X := blk b1 [.int .u8 code, .int .u8 a0, .int .u8 a1, .int .u8 a2, .int .u8 a3, .int .u8 a4, .int .u32 w32, .slice A n c] 59) (by first | ((repeat (first | exact List.Mem.head _ | apply List.Mem.tail)); done) | fail)) rfl⟩⟩) (by simp [Value.oneCell']) (hK _ _ (fun w h => h.subl (by first | ((repeat (first | exact SubL.nil | apply SubL.keep | apply SubL.skip)); done) | fail)) ?_))
        clear hK
        refine a_done (by decide +kernel) ?_
        exact key (a0, a1, a2, a3, a4) rfl _ _ (by first | ((repeat (first | exact trivial | exact rfl | apply Sub.cons | exact look_int rfl (by omega) | exact look_int rfl (by simp) | exact look_int rfl (by simp; omega))); done) | fail) (fun w h => h.psub (by first | ((repeat (first | exact PSub.nil | exact Ext.head | apply Ext.tail | apply PSub.cons)); done) | fail))
    rintro ⟨z0, z1, z2, z3, z4⟩ hz
    dsimp only at hz ⊢
    (repeat (first | refine d_seq ?_ | (refine i_q ?_; (refine d_then ?_))))
    (refine a_begin mixed _ 25 rfl (fun w h => h) ?_)
    by_cases hall : (a0 = z0 ∧ a1 = z1 ∧ a2 = z2 ∧ a3 = z3 ∧ a4 = z4)
    · have heq : (((a0 : Int) == (z0 : Int)) && (((a1 : Int) == (z1 : Int)) && (((a2 : Int) == (z2 : Int)) && (((a3 : Int) == (z3 : Int)) && ((a4 : Int) == (z4 : Int)))))) = true := by
        obtain ⟨rfl, rfl, rfl, rfl, rfl⟩ := hall
        simp
      have hzb : [a0, a1, a2, a3, a4] = zb s [a0, a1, a2, a3, a4] := by
        rw [← hz]
        obtain ⟨rfl, rfl, rfl, rfl, rfl⟩ := hall
        rfl
      cases g with
      | true =>
        refine a_q 0 rfl rfl rfl rfl rfl (by decide +kernel) (q_move rfl) ?_
        refine a_q 1 rfl rfl rfl rfl rfl (by decide +kernel) (q_move rfl) ?_
        refine a_gt 2 rfl rfl rfl rfl rfl rfl rfl (by decide +kernel) (q_fieldAddr tab rfl rfl rfl rfl rfl rfl rfl) ?_
        refine a_gt 3 rfl rfl rfl rfl rfl rfl rfl (by decide +kernel) (q_ldN tab rfl rfl rfl rfl (by first | ((repeat (first | exact List.Mem.head _ | apply List.Mem.tail)); done) | fail) (by first | ((repeat (first | exact TakeR.nil | apply TakeR.cons | apply CutR.zero | apply CutR.skip)); done) | fail)) ?_
        refine a_gt 4 rfl rfl rfl rfl rfl rfl rfl (by decide +kernel) (q_ldN tab rfl rfl rfl rfl (by first | ((repeat (first | exact List.Mem.head _ | apply List.Mem.tail)); done) | fail) (by first | ((repeat (first | exact TakeR.nil | apply TakeR.cons | apply CutR.zero | apply CutR.skip)); done) | fail)) ?_
        refine a_gt 5 rfl rfl rfl rfl rfl rfl rfl (by decide +kernel) (q_eqA5 rfl rfl) ?_
        rw [heq]
        refine a_q 6 rfl rfl rfl rfl rfl (by decide +kernel) (q_pick_t rfl rfl) ?_
        refine a_q 7 rfl rfl rfl rfl rfl (by decide +kernel) (q_move rfl) ?_
        refine a_gt 8 rfl rfl rfl rfl rfl rfl rfl (by decide +kernel) (q_move rfl) ?_
        refine a_gt 9 rfl rfl rfl rfl rfl rfl rfl (by decide +kernel) (q_move rfl) ?_
        refine a_gf 10 rfl rfl rfl rfl rfl rfl rfl rfl (by decide +kernel) ?_
        refine a_gf 11 rfl rfl rfl rfl rfl rfl rfl rfl (by decide +kernel) ?_
        refine a_gf 12 rfl rfl rfl rfl rfl rfl rfl rfl (by decide +kernel) ?_
        refine a_gt 13 rfl rfl rfl rfl rfl rfl rfl (by decide +kernel) (q_pick_t rfl rfl) ?_
        refine a_q 14 rfl rfl rfl rfl rfl (by decide +kernel) (q_pick_t rfl rfl) ?_
        refine a_q 15 rfl rfl rfl rfl rfl (by decide +kernel) (q_move rfl) ?_
        refine a_gt 16 rfl rfl rfl rfl rfl rfl rfl (by decide +kernel) (q_fieldAddr tab rfl rfl rfl rfl rfl rfl rfl) ?_
        refine a_gt 17 rfl rfl rfl rfl rfl rfl rfl (by decide +kernel) (q_ld1 tab rfl rfl rfl (by first | ((repeat (first | exact List.Mem.head _ | apply List.Mem.tail)); done) | fail) rfl) ?_
        refine a_gt 18 rfl rfl rfl rfl rfl rfl rfl (by decide +kernel) (q_len tab rfl rfl) ?_
        refine a_gt 19 rfl rfl rfl rfl rfl rfl rfl (by decide +kernel) (q_ldN tab rfl rfl rfl rfl (by first | ((repeat (first | exact List.Mem.head _ | apply List.Mem.tail)); done) | fail) (by first | ((repeat (first | exact TakeR.nil | apply TakeR.cons | apply CutR.zero | apply CutR.skip)); done) | fail)) ?_
        refine a_gt 20 rfl rfl rfl rfl rfl rfl rfl (by decide +kernel) (q_move rfl) ?_
        refine a_eg 21 rfl (by decide +kernel) rfl rfl rfl (fun K hK => e_call0 rfl rfl Try.func55 rfl (by decide) (fun w' h => cneeds_spec code a0 a1 a2 a3 a4 w32 h0 (.slice A n c) m w' rfl) (fun v B hv => ?_))
        obtain ⟨rfl, rfl⟩ := hv
        refine hK _ _ (fun w h => h.subl (by first | ((repeat (first | exact SubL.nil | apply SubL.keep | apply SubL.skip)); done) | fail)) ?_
        clear hK
        refine a_gt 22 rfl rfl rfl rfl rfl rfl rfl (by decide +kernel) (q_eql rfl rfl) ?_
        refine a_q 23 rfl rfl rfl rfl rfl (by decide +kernel) (q_pick_t rfl rfl) ?_
        refine a_q 24 rfl rfl rfl rfl rfl (by decide +kernel) (q_assign rfl) ?_
        refine a_done (by decide +kernel) ?_
        (repeat (first | (refine i_q ?_; (refine d_then ?_)) | refine c_ret ?_))
        exact t_hp (hp' := []) (fun w h => h.psub (by first | ((repeat (first | exact PSub.nil | exact Ext.head | apply Ext.tail | apply PSub.cons)); done) | fail)) (t_ret1 Try.results40 rfl ⟨_, rfl, rfl, fun h => ⟨s, true, m, hs, hzb, fun h => (by cases h), by have := of_decide_eq_true h; omega⟩⟩)
      | false =>
        by_cases hw0 : w32 = 0
        · refine a_q 0 rfl rfl rfl rfl rfl (by decide +kernel) (q_move rfl) ?_
          refine a_q 1 rfl rfl rfl rfl rfl (by decide +kernel) (q_move rfl) ?_
          refine a_gt 2 rfl rfl rfl rfl rfl rfl rfl (by decide +kernel) (q_fieldAddr tab rfl rfl rfl rfl rfl rfl rfl) ?_
          refine a_gt 3 rfl rfl rfl rfl rfl rfl rfl (by decide +kernel) (q_ldN tab rfl rfl rfl rfl (by first | ((repeat (first | exact List.Mem.head _ | apply List.Mem.tail)); done) | fail) (by first | ((repeat (first | exact TakeR.nil | apply TakeR.cons | apply CutR.zero | apply CutR.skip)); done) | fail)) ?_
          refine a_gt 4 rfl rfl rfl rfl rfl rfl rfl (by decide +kernel) (q_ldN tab rfl rfl rfl rfl (by first | ((repeat (first | exact List.Mem.head _ | apply List.Mem.tail)); done) | fail) (by first | ((repeat (first | exact TakeR.nil | apply TakeR.cons | apply CutR.zero | apply CutR.skip)); done) | fail)) ?_
          refine a_gt 5 rfl rfl rfl rfl rfl rfl rfl (by decide +kernel) (q_eqA5 rfl rfl) ?_
          rw [heq]
          refine a_q 6 rfl rfl rfl rfl rfl (by decide +kernel) (q_pick_t rfl rfl) ?_
          refine a_q 7 rfl rfl rfl rfl rfl (by decide +kernel) (q_move rfl) ?_
          refine a_gt 8 rfl rfl rfl rfl rfl rfl rfl (by decide +kernel) (q_move rfl) ?_
          refine a_gt 9 rfl rfl rfl rfl rfl rfl rfl (by decide +kernel) (q_move rfl) ?_
          refine a_gt 10 rfl rfl rfl rfl rfl rfl rfl (by decide +kernel) (q_fieldAddr tab rfl rfl rfl rfl rfl rfl rfl) ?_
          refine a_gt 11 rfl rfl rfl rfl rfl rfl rfl (by decide +kernel) (q_ld1 tab rfl rfl rfl (by first | ((repeat (first | exact List.Mem.head _ | apply List.Mem.tail)); done) | fail) rfl) ?_
          refine a_gt 12 rfl rfl rfl rfl rfl rfl rfl (by decide +kernel) (q_eql rfl rfl) ?_
          rw [show decide ((w32 : Int) = 0) = true from decide_eq_true (by omega)]
          refine a_gt 13 rfl rfl rfl rfl rfl rfl rfl (by decide +kernel) (q_pick_f rfl rfl) ?_
          refine a_q 14 rfl rfl rfl rfl rfl (by decide +kernel) (q_pick_t rfl rfl) ?_
          refine a_q 15 rfl rfl rfl rfl rfl (by decide +kernel) (q_move rfl) ?_
          refine a_gt 16 rfl rfl rfl rfl rfl rfl rfl (by decide +kernel) (q_fieldAddr tab rfl rfl rfl rfl rfl rfl rfl) ?_
          refine a_gt 17 rfl rfl rfl rfl rfl rfl rfl (by decide +kernel) (q_ld1 tab rfl rfl rfl (by first | ((repeat (first | exact List.Mem.head _ | apply List.Mem.tail)); done) | fail) rfl) ?_
          refine a_gt 18 rfl rfl rfl rfl rfl rfl rfl (by decide +kernel) (q_len tab rfl rfl) ?_
          refine a_gt 19 rfl rfl rfl rfl rfl rfl rfl (by decide +kernel) (q_ldN tab rfl rfl rfl rfl (by first | ((repeat (first | exact List.Mem.head _ | apply List.Mem.tail)); done) | fail) (by first | ((repeat (first | exact TakeR.nil | apply TakeR.cons | apply CutR.zero | apply CutR.skip)); done) | fail)) ?_
          refine a_gt 20 rfl rfl rfl rfl rfl rfl rfl (by decide +kernel) (q_move rfl) ?_
          refine a_eg 21 rfl (by decide +kernel) rfl rfl rfl (fun K hK => e_call0 rfl rfl Try.func55 rfl (by decide) (fun w' h => cneeds_spec code a0 a1 a2 a3 a4 w32 h0 (.slice A n c) m w' rfl) (fun v B hv => ?_))
          obtain ⟨rfl, rfl⟩ := hv
          refine hK _ _ (fun w h => h.subl (by first | ((repeat (first | exact SubL.nil | apply SubL.keep | apply SubL.skip)); done) | fail)) ?_
          clear hK
          refine a_gt 22 rfl rfl rfl rfl rfl rfl rfl (by decide +kernel) (q_eql rfl rfl) ?_
          refine a_q 23 rfl rfl rfl rfl rfl (by decide +kernel) (q_pick_t rfl rfl) ?_
          refine a_q 24 rfl rfl rfl rfl rfl (by decide +kernel) (q_assign rfl) ?_
          refine a_done (by decide +kernel) ?_
          (repeat (first | (refine i_q ?_; (refine d_then ?_)) | refine c_ret ?_))
          exact t_hp (hp' := []) (fun w h => h.psub (by first | ((repeat (first | exact PSub.nil | exact Ext.head | apply Ext.tail | apply PSub.cons)); done) | fail)) (t_ret1 Try.results40 rfl ⟨_, rfl, rfl, fun h => ⟨s, false, m, hs, hzb, fun _ => hw0, by have := of_decide_eq_true h; omega⟩⟩)
        · refine a_q 0 rfl rfl rfl rfl rfl (by decide +kernel) (q_move rfl) ?_
          refine a_q 1 rfl rfl rfl rfl rfl (by decide +kernel) (q_move rfl) ?_
          refine a_gt 2 rfl rfl rfl rfl rfl rfl rfl (by decide +kernel) (q_fieldAddr tab rfl rfl rfl rfl rfl rfl rfl) ?_
          refine a_gt 3 rfl rfl rfl rfl rfl rfl rfl (by decide +kernel) (q_ldN tab rfl rfl rfl rfl (by first | ((repeat (first | exact List.Mem.head _ | apply List.Mem.tail)); done) | fail) (by first | ((repeat (first | exact TakeR.nil | apply TakeR.cons | apply CutR.zero | apply CutR.skip)); done) | fail)) ?_
          refine a_gt 4 rfl rfl rfl rfl rfl rfl rfl (by decide +kernel) (q_ldN tab rfl rfl rfl rfl (by first | ((repeat (first | exact List.Mem.head _ | apply List.Mem.tail)); done) | fail) (by first | ((repeat (first | exact TakeR.nil | apply TakeR.cons | apply CutR.zero | apply CutR.skip)); done) | fail)) ?_
          refine a_gt 5 rfl rfl rfl rfl rfl rfl rfl (by decide +kernel) (q_eqA5 rfl rfl) ?_
          rw [heq]
          refine a_q 6 rfl rfl rfl rfl rfl (by decide +kernel) (q_pick_t rfl rfl) ?_
          refine a_q 7 rfl rfl rfl rfl rfl (by decide +kernel) (q_move rfl) ?_
          refine a_gt 8 rfl rfl rfl rfl rfl rfl rfl (by decide +kernel) (q_move rfl) ?_
          refine a_gt 9 rfl rfl rfl rfl rfl rfl rfl (by decide +kernel) (q_move rfl) ?_
          refine a_gt 10 rfl rfl rfl rfl rfl rfl rfl (by decide +kernel) (q_fieldAddr tab rfl rfl rfl rfl rfl rfl rfl) ?_
          refine a_gt 11 rfl rfl rfl rfl rfl rfl rfl (by decide +kernel) (q_ld1 tab rfl rfl rfl (by first | ((repeat (first | exact List.Mem.head _ | apply List.Mem.tail)); done) | fail) rfl) ?_
          refine a_gt 12 rfl rfl rfl rfl rfl rfl rfl (by decide +kernel) (q_eql rfl rfl) ?_
          rw [show decide ((w32 : Int) = 0) = false from decide_eq_false (by omega)]
          refine a_gt 13 rfl rfl rfl rfl rfl rfl rfl (by decide +kernel) (q_pick_f rfl rfl) ?_
          refine a_q 14 rfl rfl rfl rfl rfl (by decide +kernel) (q_pick_t rfl rfl) ?_
          refine a_q 15 rfl rfl rfl rfl rfl (by decide +kernel) (q_move rfl) ?_
          refine a_gf 16 rfl rfl rfl rfl rfl rfl rfl rfl (by decide +kernel) ?_
          refine a_gf 17 rfl rfl rfl rfl rfl rfl rfl rfl (by decide +kernel) ?_
          refine a_gf 18 rfl rfl rfl rfl rfl rfl rfl rfl (by decide +kernel) ?_
          refine a_gf 19 rfl rfl rfl rfl rfl rfl rfl rfl (by decide +kernel) ?_
          refine a_gf 20 rfl rfl rfl rfl rfl rfl rfl rfl (by decide +kernel) ?_
          refine a_gf 21 rfl rfl rfl rfl rfl rfl rfl rfl (by decide +kernel) ?_
          refine a_gf 22 rfl rfl rfl rfl rfl rfl rfl rfl (by decide +kernel) ?_
          refine a_q 23 rfl rfl rfl rfl rfl (by decide +kernel) (q_pick_f rfl rfl) ?_
          refine a_q 24 rfl rfl rfl rfl rfl (by decide +kernel) (q_assign rfl) ?_
          refine a_done (by decide +kernel) ?_
          (repeat (first | (refine i_q ?_; (refine d_then ?_)) | refine c_ret ?_))
          exact t_hp (hp' := []) (fun w h => h.psub (by first | ((repeat (first | exact PSub.nil | exact Ext.head | apply Ext.tail | apply PSub.cons)); done) | fail)) (t_ret1 Try.results40 rfl ⟨false, rfl, rfl, fun h => (by cases h)⟩)
    · have heq : (((a0 : Int) == (z0 : Int)) && (((a1 : Int) == (z1 : Int)) && (((a2 : Int) == (z2 : Int)) && (((a3 : Int) == (z3 : Int)) && ((a4 : Int) == (z4 : Int)))))) = false := by
        rw [Bool.eq_false_iff]
        intro h
        simp at h
        exact hall (by omega)
      refine a_q 0 rfl rfl rfl rfl rfl (by decide +kernel) (q_move rfl) ?_
      refine a_q 1 rfl rfl rfl rfl rfl (by decide +kernel) (q_move rfl) ?_
      refine a_gt 2 rfl rfl rfl rfl rfl rfl rfl (by decide +kernel) (q_fieldAddr tab rfl rfl rfl rfl rfl rfl rfl) ?_
      refine a_gt 3 rfl rfl rfl rfl rfl rfl rfl (by decide +kernel) (q_ldN tab rfl rfl rfl rfl (by first | ((repeat (first | exact List.Mem.head _ | apply List.Mem.tail)); done) | fail) (by first | ((repeat (first | exact TakeR.nil | apply TakeR.cons | apply CutR.zero | apply CutR.skip)); done) | fail)) ?_
      refine a_gt 4 rfl rfl rfl rfl rfl rfl rfl (by decide +kernel) (q_ldN tab rfl rfl rfl rfl (by first | ((repeat (first | exact List.Mem.head _ | apply List.Mem.tail)); done) | fail) (by first | ((repeat (first | exact TakeR.nil | apply TakeR.cons | apply CutR.zero | apply CutR.skip)); done) | fail)) ?_
      refine a_gt 5 rfl rfl rfl rfl rfl rfl rfl (by decide +kernel) (q_eqA5 rfl rfl) ?_
      rw [heq]
      refine a_q 6 rfl rfl rfl rfl rfl (by decide +kernel) (q_pick_t rfl rfl) ?_
      refine a_q 7 rfl rfl rfl rfl rfl (by decide +kernel) (q_move rfl) ?_
      refine a_gf 8 rfl rfl rfl rfl rfl rfl rfl rfl (by decide +kernel) ?_
      refine a_gf 9 rfl rfl rfl rfl rfl rfl rfl rfl (by decide +kernel) ?_
      refine a_gu 10 rfl rfl rfl rfl rfl rfl rfl (by decide +kernel) ?_
      refine a_gu 11 rfl rfl rfl rfl rfl rfl rfl (by decide +kernel) ?_
      refine a_gu 12 rfl rfl rfl rfl rfl rfl rfl (by decide +kernel) ?_
      refine a_gf 13 rfl rfl rfl rfl rfl rfl rfl rfl (by decide +kernel) ?_
      refine a_q 14 rfl rfl rfl rfl rfl (by decide +kernel) (q_pick_f rfl rfl) ?_
      refine a_q 15 rfl rfl rfl rfl rfl (by decide +kernel) (q_move rfl) ?_
      refine a_gf 16 rfl rfl rfl rfl rfl rfl rfl rfl (by decide +kernel) ?_
      refine a_gf 17 rfl rfl rfl rfl rfl rfl rfl rfl (by decide +kernel) ?_
      refine a_gf 18 rfl rfl rfl rfl rfl rfl rfl rfl (by decide +kernel) ?_
      refine a_gf 19 rfl rfl rfl rfl rfl rfl rfl rfl (by decide +kernel) ?_
      refine a_gf 20 rfl rfl rfl rfl rfl rfl rfl rfl (by decide +kernel) ?_
      refine a_gf 21 rfl rfl rfl rfl rfl rfl rfl rfl (by decide +kernel) ?_
      refine a_gf 22 rfl rfl rfl rfl rfl rfl rfl rfl (by decide +kernel) ?_
      refine a_q 23 rfl rfl rfl rfl rfl (by decide +kernel) (q_pick_f rfl rfl) ?_
      refine a_q 24 rfl rfl rfl rfl rfl (by decide +kernel) (q_assign rfl) ?_
      refine a_done (by decide +kernel) ?_
      (repeat (first | (refine i_q ?_; (refine d_then ?_)) | refine c_ret ?_))
      exact t_hp (hp' := []) (fun w h => h.psub (by first | ((repeat (first | exact PSub.nil | exact Ext.head | apply Ext.tail | apply PSub.cons)); done) | fail)) (t_ret1 Try.results40 rfl ⟨false, rfl, rfl, fun h => (by cases h)⟩)
end Go.Proofs.Ytboccjdncdaakaa

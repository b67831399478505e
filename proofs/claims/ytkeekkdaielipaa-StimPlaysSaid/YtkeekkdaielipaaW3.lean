/-
  Layer 12: ref10.Same, walked.
-/
import Derived.Test.YtkeekkdaielipaaV8
set_option linter.unusedVariables false
set_option maxRecDepth 100000
namespace Go.Proofs.Ytkeekkdaielipaa
open Go.RowKit
attribute [local irreducible] TL TC TQ TK TO Qt TA

def InRep (S : Nat → Prop) (w0 : World) (r : List Value) (x : RepV) : Prop := r = repCells x ∧ ∃ A c, x.v = .slice A x.b.length c ∧ Ro S w0 (roB A x.b.length x.b)
attribute [local irreducible] blk row bytesA starL memA segA roB

attribute [local irreducible] repB

set_option maxHeartbeats 8000000 in
theorem same_spec {w : World} {A A' : Option Addr} {n c c' : Nat} {xs ys : List RepV} (hx : InS (fps []) w 3 (InRep (fps []) w) A n xs) (hy : InS (fps []) w 3 (InRep (fps []) w) A' n ys) (he : xs.map (fun x => (x.code, x.b)) = ys.map (fun x => (x.code, x.b))) (hn : n ≤ 1000000) :
    Calls Try.prog 42 #[.slice A n c, .slice A' n c'] w (Ret w [] fun v B => v = .bool true ∧ B = []) := by
  have hxl := hx.len
  have hyl := hy.len
  refine enter (vs := [.slice A n c, .slice A' n c']) Try.func42 rfl Try.ntmps42 rfl (Hold.nil w) ?_
  (repeat (first | (refine i_dst ?_; (first | (refine i_move ?_; refine l_q rfl rfl rfl (q_move rfl) ?_) | (refine i_assign ?_; refine l_q rfl rfl rfl (q_assign rfl) ?_) | (refine i_bin ?_; refine l_q rfl rfl rfl (by (exact q_neq rfl rfl)) ?_) | (refine i_blt ?_; refine l_q rfl rfl rfl (by (exact q_len tab rfl rfl)) ?_))) | refine d_seq ?_ | refine c_region ?_ | refine l_nil ?_ | refine c_block ?_ | (refine i_q ?_; (refine d_then ?_)) | refine c_skip ?_ | (refine i_cond ?_; ((refine c_cf rfl (by (((first | (simp; done) | fail)))) ?_)))))
  refine d_loop (T := Nat) [0, 1] (fun i => [(5, .int .i64 i)]) [] (fun _ => []) (fun i => i ≤ n) (fun i => n - i) 0 (by first | ((repeat (first | exact Pick.nil | exact rfl | apply Pick.cons)); done) | fail) (Nat.zero_le _) (by first | ((repeat (first | exact trivial | exact rfl | apply Sub.cons | exact look_int rfl (by omega) | exact look_int rfl (by simp) | exact look_int rfl (by simp; omega))); done) | fail) (fun w h => h.psub (by first | ((repeat (first | exact PSub.nil | exact Ext.head | apply Ext.tail | apply PSub.cons)); done) | fail)) ?_
  rintro i hi
  by_cases hlt : i < n
  · obtain ⟨⟨xc, xv, xb⟩, hxi⟩ : ∃ x, xs[i]? = some x := ⟨_, List.getElem?_eq_getElem (by omega)⟩
    obtain ⟨⟨yc, yv, yb⟩, hyi⟩ : ∃ y, ys[i]? = some y := ⟨_, List.getElem?_eq_getElem (by omega)⟩
    have hxy : (xc, xb) = (yc, yb) := by
      have h1 := congrArg (fun l => l[i]?) he
      simpa [hxi, hyi] using h1
    injection hxy with e1 e2
    subst e1 e2
    obtain ⟨bx, ox, r1, rfl, -, ⟨rfl, Ax, cx, ex, hrx⟩, hcx⟩ := hx.get (by omega) hxi
    obtain ⟨by_, oy, r2, rfl, -, ⟨rfl, Ay, cy, ey, hry⟩, hcy⟩ := hy.get (by omega) hyi
    dsimp only at ex ey
    subst ex ey
    dsimp only at hrx hry
    have ei : (i : Int).toNat = i := by omega
    have hx0 : ∀ hp w', St (fps []) w hp w' → w'.cell? ⟨bx, ox + (i : Int).toNat * 3 + 0, none⟩ = some (.int .u8 4) := fun hp w' h => by rw [ei]; exact (hcx hp w' h) 0 _ rfl
    have hx1 : ∀ hp w', St (fps []) w hp w' → w'.cell? ⟨bx, ox + (i : Int).toNat * 3 + 1, none⟩ = some (.int .u8 xc) := fun hp w' h => by rw [ei]; exact (hcx hp w' h) 1 _ rfl
    have hx2 : ∀ hp w', St (fps []) w hp w' → w'.cell? ⟨bx, ox + (i : Int).toNat * 3 + 2, none⟩ = some (.slice Ax xb.length cx) := fun hp w' h => by rw [ei]; exact (hcx hp w' h) 2 _ rfl
    have hy0 : ∀ hp w', St (fps []) w hp w' → w'.cell? ⟨by_, oy + (i : Int).toNat * 3 + 0, none⟩ = some (.int .u8 4) := fun hp w' h => by rw [ei]; exact (hcy hp w' h) 0 _ rfl
    have hy1 : ∀ hp w', St (fps []) w hp w' → w'.cell? ⟨by_, oy + (i : Int).toNat * 3 + 1, none⟩ = some (.int .u8 xc) := fun hp w' h => by rw [ei]; exact (hcy hp w' h) 1 _ rfl
    have hy2 : ∀ hp w', St (fps []) w hp w' → w'.cell? ⟨by_, oy + (i : Int).toNat * 3 + 2, none⟩ = some (.slice Ay xb.length cy) := fun hp w' h => by rw [ei]; exact (hcy hp w' h) 2 _ rfl
    clear hcx hcy
    have hst : ((strOfNums xb).toList == (strOfNums xb).toList) = true := by simp
    (repeat (first | (refine i_dst ?_; (first | (refine i_move ?_; refine l_q rfl rfl rfl (q_move rfl) ?_) | (refine i_bin ?_; refine l_q rfl rfl rfl (by (exact q_lss rfl rfl)) ?_) | (refine i_blt ?_; refine l_q rfl rfl rfl (by (exact q_len tab rfl rfl)) ?_))) | refine d_seq ?_ | refine c_region ?_ | refine l_nil ?_ | refine c_block ?_ | (refine i_q ?_; (refine d_then ?_)) | refine c_skip ?_ | (refine i_cond ?_; (refine c_ct rfl (by (exact decide_eq_true (by omega))) ?_))))
    (refine a_begin mixed _ 39 rfl (fun w h => h) ?_)
    ((refine a_q 0 rfl rfl rfl rfl rfl (by decide +kernel) (q_move rfl) ?_; refine a_q 1 rfl rfl rfl rfl rfl (by decide +kernel) (q_move rfl) ?_; refine a_q 2 rfl rfl rfl rfl rfl (by decide +kernel) (by (exact q_indexAddr tab rfl rfl rfl rfl (by omega))) ?_; refine a_q 3 rfl rfl rfl rfl rfl (by decide +kernel) (by ((apply iq_fld; (exact q_fieldAddr tab rfl rfl rfl rfl rfl rfl rfl)))) ?_; (refine a_q 4 rfl rfl rfl rfl rfl (by decide +kernel) (by (exact q_ldc tab rfl rfl rfl (by assumption))) ?_); refine a_q 5 rfl rfl rfl rfl rfl (by decide +kernel) (q_move rfl) ?_; refine a_q 6 rfl rfl rfl rfl rfl (by decide +kernel) (q_move rfl) ?_; refine a_q 7 rfl rfl rfl rfl rfl (by decide +kernel) (by (exact q_indexAddr tab rfl rfl rfl rfl (by omega))) ?_; refine a_q 8 rfl rfl rfl rfl rfl (by decide +kernel) (by ((apply iq_fld; (exact q_fieldAddr tab rfl rfl rfl rfl rfl rfl rfl)))) ?_; (refine a_q 9 rfl rfl rfl rfl rfl (by decide +kernel) (by (exact q_ldc tab rfl rfl rfl (by assumption))) ?_); refine a_q 10 rfl rfl rfl rfl rfl (by decide +kernel) (by (exact q_neq rfl rfl)) ?_; refine a_q 11 rfl rfl rfl rfl rfl (by decide +kernel) (q_move rfl) ?_; (refine a_gt 12 rfl rfl rfl rfl rfl rfl rfl (by decide +kernel) (q_move rfl) ?_); (refine a_gt 13 rfl rfl rfl rfl rfl rfl rfl (by decide +kernel) (q_move rfl) ?_); (refine a_gt 14 rfl rfl rfl rfl rfl rfl rfl (by decide +kernel) (by (exact q_indexAddr tab rfl rfl rfl rfl (by omega))) ?_); ((refine a_gt 15 rfl rfl rfl rfl rfl rfl rfl (by decide +kernel) (by ((apply iq_fld; (exact q_fieldAddr tab rfl rfl rfl rfl rfl rfl rfl)))) ?_)); (refine a_gt 16 rfl rfl rfl rfl rfl rfl rfl (by decide +kernel) (by (exact q_ldc tab rfl rfl rfl (by assumption))) ?_); (refine a_gt 17 rfl rfl rfl rfl rfl rfl rfl (by decide +kernel) (q_move rfl) ?_); (refine a_gt 18 rfl rfl rfl rfl rfl rfl rfl (by decide +kernel) (q_move rfl) ?_); (refine a_gt 19 rfl rfl rfl rfl rfl rfl rfl (by decide +kernel) (by (exact q_indexAddr tab rfl rfl rfl rfl (by omega))) ?_); ((refine a_gt 20 rfl rfl rfl rfl rfl rfl rfl (by decide +kernel) (by ((apply iq_fld; (exact q_fieldAddr tab rfl rfl rfl rfl rfl rfl rfl)))) ?_)); (refine a_gt 21 rfl rfl rfl rfl rfl rfl rfl (by decide +kernel) (by (exact q_ldc tab rfl rfl rfl (by assumption))) ?_); (refine a_gt 22 rfl rfl rfl rfl rfl rfl rfl (by decide +kernel) (by (exact q_neq rfl rfl)) ?_); refine a_q 23 rfl rfl rfl rfl rfl (by decide +kernel) (by (exact q_pick_f rfl rfl)) ?_; refine a_q 24 rfl rfl rfl rfl rfl (by decide +kernel) (q_move rfl) ?_; ((refine a_known 41 false rfl (by (((first | (simp; done) | fail)))) ?_; (refine a_gt 25 rfl rfl rfl rfl rfl rfl rfl (by decide +kernel) (q_move rfl) ?_))); (refine a_gt 26 rfl rfl rfl rfl rfl rfl rfl (by decide +kernel) (q_move rfl) ?_); (refine a_gt 27 rfl rfl rfl rfl rfl rfl rfl (by decide +kernel) (by (exact q_indexAddr tab rfl rfl rfl rfl (by omega))) ?_); ((refine a_gt 28 rfl rfl rfl rfl rfl rfl rfl (by decide +kernel) (by ((apply iq_fld; (exact q_fieldAddr tab rfl rfl rfl rfl rfl rfl rfl)))) ?_)); (refine a_gt 29 rfl rfl rfl rfl rfl rfl rfl (by decide +kernel) (by (exact q_ldc tab rfl rfl rfl (by assumption))) ?_); ((refine a_gt 30 rfl rfl rfl rfl rfl rfl rfl (by decide +kernel) (by ((apply iq_cv; (exact q_str tab rfl rfl rfl rfl (fun w h => h.ro (by assumption)))))) ?_)); (refine a_gt 31 rfl rfl rfl rfl rfl rfl rfl (by decide +kernel) (q_move rfl) ?_); (refine a_gt 32 rfl rfl rfl rfl rfl rfl rfl (by decide +kernel) (q_move rfl) ?_); (refine a_gt 33 rfl rfl rfl rfl rfl rfl rfl (by decide +kernel) (by (exact q_indexAddr tab rfl rfl rfl rfl (by omega))) ?_); ((refine a_gt 34 rfl rfl rfl rfl rfl rfl rfl (by decide +kernel) (by ((apply iq_fld; (exact q_fieldAddr tab rfl rfl rfl rfl rfl rfl rfl)))) ?_)); (refine a_gt 35 rfl rfl rfl rfl rfl rfl rfl (by decide +kernel) (by (exact q_ldc tab rfl rfl rfl (by assumption))) ?_); ((refine a_gt 36 rfl rfl rfl rfl rfl rfl rfl (by decide +kernel) (by ((apply iq_cv; (exact q_str tab rfl rfl rfl rfl (fun w h => h.ro (by assumption)))))) ?_)); (refine a_gt 37 rfl rfl rfl rfl rfl rfl rfl (by decide +kernel) (by (exact q_nes rfl rfl)) ?_); refine a_q 38 rfl rfl rfl rfl rfl (by decide +kernel) (by (exact q_pick_f rfl rfl)) ?_))
    refine a_done (by decide +kernel) ?_
    rw [hst]
    (repeat (first | (refine i_dst ?_; (first | (refine i_move ?_; refine l_q rfl rfl rfl (q_move rfl) ?_) | (refine i_assign ?_; refine l_q rfl rfl rfl (q_assign rfl) ?_) | (refine i_bin ?_; refine l_q rfl rfl rfl (by (exact q_add rfl rfl (by (exact wr_i64 (by omega))))) ?_))) | refine c_region ?_ | refine l_nil ?_ | (refine i_q ?_; (first | refine d_then ?_ | refine t_then ?_ | refine t_block ?_)) | refine c_skip ?_ | (refine i_cond ?_; (refine c_cf rfl (by (rfl)) ?_))))
    exact k_again (i + 1) (by omega) (by omega) (by first | ((repeat (first | exact trivial | exact rfl | apply Sub.cons | exact look_int rfl (by omega) | exact look_int rfl (by simp) | exact look_int rfl (by simp; omega))); done) | fail) (fun w h => h.psub (by first | ((repeat (first | exact PSub.nil | exact Ext.head | apply Ext.tail | apply PSub.cons)); done) | fail))
  · have hin : i = n := by omega
    (repeat (first | (refine i_dst ?_; (first | (refine i_move ?_; refine l_q rfl rfl rfl (q_move rfl) ?_) | (refine i_assign ?_; refine l_q rfl rfl rfl (q_assign rfl) ?_) | (refine i_bin ?_; refine l_q rfl rfl rfl (by (exact q_lss rfl rfl)) ?_) | (refine i_blt ?_; refine l_q rfl rfl rfl (by (exact q_len tab rfl rfl)) ?_))) | refine d_seq ?_ | refine c_region ?_ | refine l_nil ?_ | (refine i_q ?_; (first | refine d_then ?_ | refine d_then_exit ?_ | refine t_then_exit ?_ | refine t_block_eq rfl ?_)) | refine c_exit ?_ | refine c_ret ?_ | (refine i_cond ?_; (refine c_cf rfl (by (exact decide_eq_false (by omega))) ?_))))
    exact t_ret1 Try.results42 rfl ⟨rfl, rfl⟩
end Go.Proofs.Ytkeekkdaielipaa

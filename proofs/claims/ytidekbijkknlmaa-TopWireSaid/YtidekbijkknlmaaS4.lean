/-
  Layer 14: Take, walked.
-/
import Derived.Test.YtidekbijkknlmaaS3
set_option linter.unusedVariables false
set_option maxRecDepth 100000
namespace Go.Proofs.Ytidekbijkknlmaa
open Go.RowKit
attribute [local irreducible] TL TC TQ TK TO Qt TA
theorem takeS_some {X : Sm} {ls : List ListI} {code i k : Nat} {b : List Int} (h : ofM code ls = some (i, k)) (hb : ¬ b.length < needsM (tabM ls i k)) : takeS X ls code b = (if k = 0 then (X.set i [b], true) else if k = (X.getD i []).length then (X.set i (X.getD i [] ++ [b]), true) else (X.set i [], false)) := by
  rw [takeS, h]
  dsimp only
  rw [if_neg hb]
theorem part_shut {S : Nat → Prop} {w0 w : World} {F : List Asn} {v u : Value} {n : Nat} {vs : List Value} {bs : List (List Int)} {b : List Int} (hn : vs.length = n) (hl : vs.length = bs.length) (h : St S w0 (row 30 1 v (n + 1) (vs ++ [u]) :: bytesA u b :: starL (List.zipWith bytesA vs bs) :: F) w) : St S w0 (partA ⟨v, vs ++ [u], bs ++ [b]⟩ :: F) w := by
  have h1 : St S w0 (bytesA u b :: starL (List.zipWith bytesA vs bs) :: row 30 1 v (n + 1) (vs ++ [u]) :: F) w := h.perm (by
    refine .trans (.swap _ _ _) (.cons _ ?_)
    exact .swap _ _ _)
  have h2 := st_starS hl h1
  refine part_mk (y := ⟨v, vs ++ [u], bs ++ [b]⟩) ?_
  dsimp only
  rw [List.length_append, List.length_append, hn, List.length_singleton, List.length_singleton]
  have h3 : St S w0 (pureA (n + 1 = bs.length + 1) :: starL (List.zipWith bytesA (vs ++ [u]) (bs ++ [b])) :: row 30 1 v (n + 1) (vs ++ [u]) :: F) w := st_pure (by omega) h2
  exact h3.perm (.trans (.cons _ (.swap _ _ _)) (.swap _ _ _))
def TakeOut (t : TypeId) (p : Nat) (r : Sm × Bool) (v : Value) (B : List Asn) : Prop := ∃ x', v = .bool r.2 ∧ B = [stimA t p x'] ∧ absS x' = r.1
attribute [local irreducible] blk row bytesA starL memA segA roB
attribute [local irreducible] stimA partA
set_option maxHeartbeats 4000000 in
theorem stake_spec {p : Nat} {x : List PartV} {w : World} (hA : Hold [stimA sT p x] w) (A : Option Addr) (n c : Nat) (ls : List ListI) (hls : InS (fps [stimA sT p x]) w 8 (InList (fps [stimA sT p x]) w) A n ls) (hnc : n ≤ c) (hcm : c ≤ maxLen) (hsm : ∀ l ∈ ls, SmallL l)
    (kind code : Nat) (hc : code ≤ 255) (B : Option Addr) (k cb : Nat) (b : List Int) (hr : Ro (fps [stimA sT p x]) w (roB B k b)) (hk : k ≤ 1000000) :
    Calls Try.prog 32 #[.pointer (some ⟨p, 0, none⟩), .slice A n c, .agg #[.int .u8 kind, .int .u8 code, .slice B k cb]] w (Ret w [stimA sT p x] (TakeOut sT p (takeS (absS x) ls code b))) := by
  refine enter (vs := [.pointer (some ⟨p, 0, none⟩), .slice A n c, .agg #[.int .u8 kind, .int .u8 code, .slice B k cb]]) Try.func32 rfl Try.ntmps32 rfl hA ?_
  have hx4 : x.length = 4 := stim_len (t := sT) (p := p) (hA.all _ (by simp))
  have hbl : b.length = k := roB_len hr.is
  have hmx : maxLen = 2 ^ 63 - 1 := rfl
  (repeat (first | (refine i_dst ?_; (first | (refine i_move ?_; refine l_q rfl rfl rfl (q_move rfl) ?_) | (refine i_assign ?_; refine l_q rfl rfl rfl (q_assign rfl) ?_) | (refine i_load ?_; refine l_q rfl rfl rfl (by ((exact q_ld1 tab rfl rfl rfl (by first | ((repeat (first | exact List.Mem.head _ | apply List.Mem.tail)); done) | fail) (by (rfl))))) ?_) | (refine i_box ?_; (refine l_boxA rfl rfl (fun _ => ?_))) | (refine l_q rfl rfl rfl (by ((apply iq_fld; (exact q_fieldAddr tab rfl rfl rfl rfl rfl rfl rfl)))) ?_))) | refine d_seq ?_ | refine c_region ?_ | refine l_nil ?_ | (refine i_q ?_; (refine d_then ?_))))
  rename_i b5
  (refine l_call0 rfl rfl Try.func56 rfl (by decide) (fun w' h => of_stim_spec (hls.to (fun r hr => roOf0 h hr) (fun r x hx => hx.to (fun r hr => roOf0 h hr))) hnc hcm code hc) (fun v B hv => ?_); obtain ⟨rfl, rfl⟩ := hv)
  cases hof : ofM code ls with
  | none =>
    have et : takeS (absS x) ls code b = (absS x, false) := by rw [takeS, hof]
    rw [ofRes, et]
    (repeat (first | (refine i_dst ?_; (first | (refine i_move ?_; refine l_q rfl rfl rfl (q_move rfl) ?_) | (refine i_assign ?_; refine l_q rfl rfl rfl (q_assign rfl) ?_) | refine l_q rfl rfl rfl (by (exact q_extract rfl rfl)) ?_)) | refine d_seq ?_ | refine l_nil ?_ | (refine i_q ?_; (refine d_then ?_))))
    (refine a_begin mixed [blk b5 [.int .u8 kind, .int .u8 code, .slice B k cb] 32] 21 rfl (fun w h => h.subl (by first | ((repeat (first | exact SubL.nil | apply SubL.keep | apply SubL.skip)); done) | fail)) ?_)
    ((refine a_q 0 rfl rfl rfl rfl rfl (by decide +kernel) (q_move rfl) ?_; refine a_q 1 rfl rfl rfl rfl rfl (by decide +kernel) (by (exact q_eqnil tab rfl rfl rfl)) ?_; refine a_q 2 rfl rfl rfl rfl rfl (by decide +kernel) (q_move rfl) ?_; (refine a_gt 3 rfl rfl rfl rfl rfl rfl rfl (by decide +kernel) (q_move rfl) ?_); (refine a_gt 4 rfl rfl rfl rfl rfl rfl rfl (by decide +kernel) (by (exact q_not rfl)) ?_); refine a_q 5 rfl rfl rfl rfl rfl (by decide +kernel) (by (exact q_pick_f rfl rfl)) ?_; refine a_q 6 rfl rfl rfl rfl rfl (by decide +kernel) (q_move rfl) ?_; (refine a_gf 7 rfl rfl rfl rfl rfl rfl rfl rfl (by decide +kernel) ?_); (refine a_gf 8 rfl rfl rfl rfl rfl rfl rfl rfl (by decide +kernel) ?_); (refine a_gf 9 rfl rfl rfl rfl rfl rfl rfl rfl (by decide +kernel) ?_); (refine a_gf 10 rfl rfl rfl rfl rfl rfl rfl rfl (by decide +kernel) ?_); (refine a_gf 11 rfl rfl rfl rfl rfl rfl rfl rfl (by decide +kernel) ?_); (refine a_gf 12 rfl rfl rfl rfl rfl rfl rfl rfl (by decide +kernel) ?_); (refine a_gf 13 rfl rfl rfl rfl rfl rfl rfl rfl (by decide +kernel) ?_); (refine a_gf 14 rfl rfl rfl rfl rfl rfl rfl rfl (by decide +kernel) ?_); (refine a_gf 15 rfl rfl rfl rfl rfl rfl rfl rfl (by decide +kernel) ?_); (refine a_gf 16 rfl rfl rfl rfl rfl rfl rfl rfl (by decide +kernel) ?_); (refine a_gf 17 rfl rfl rfl rfl rfl rfl rfl rfl (by decide +kernel) ?_)))
    refine a_gf 18 rfl rfl rfl rfl rfl rfl rfl rfl (by decide +kernel) ?_
    (((refine a_gf 19 rfl rfl rfl rfl rfl rfl rfl rfl (by decide +kernel) ?_); refine a_q 20 rfl rfl rfl rfl rfl (by decide +kernel) (by (exact q_pick_t rfl rfl)) ?_))
    refine a_done (by decide +kernel) ?_
    (repeat (first | (refine i_dst ?_; ((refine i_assign ?_; refine l_q rfl rfl rfl (q_assign rfl) ?_))) | refine d_seq ?_ | refine c_region ?_ | refine l_nil ?_ | (refine i_q ?_; (first | refine d_then ?_ | refine d_then_ret ?_)) | refine c_ret ?_ | (refine i_cond ?_; (refine c_ct rfl (by (rfl)) ?_))))
    exact t_hp (hp' := [stimA sT p x]) (fun w h => h.subl (by first | ((repeat (first | exact SubL.nil | apply SubL.keep | apply SubL.skip)); done) | fail)) (t_ret1 Try.results32 rfl ⟨x, rfl, rfl, rfl⟩)
  | some q =>
    obtain ⟨i, j⟩ := q
    obtain ⟨l, t, hl, hi4, ht, hhit, hj, htab⟩ := ofM_some hof
    have hil := (List.getElem?_eq_some_iff.1 hl).1
    have hjl := (List.getElem?_eq_some_iff.1 ht).1
    obtain ⟨hs1, hs2⟩ := hsm l (List.mem_of_getElem? hl)
    have ht1000 := hs2 t (List.mem_of_getElem? ht)
    obtain ⟨bA, oA, r, rfl, hrl, hL, hcell⟩ := hls.get (by omega) hl
    obtain ⟨⟨At, nt, ct, rfl, htabs, ht1, ht2⟩, -, -, -, -⟩ := hL
    obtain ⟨bT, oT, r2, rfl, hrl2, hT, hcell2⟩ := htabs.get (by omega) ht
    obtain ⟨Ae, ne, ce, rfl, hE, he1, he2⟩ := hT
    have hlen := hls.len
    have htl := htabs.len
    have hel := hE.len
    have hc1 : ∀ hp w', St (fps [stimA sT p x]) w hp w' → w'.cell? ⟨bA, oA + (i : Int).toNat * 8 + 1, none⟩ = some (.slice (some ⟨bT, oT, none⟩) nt ct) := fun hp w' h => (hcell hp w' h) 1 _ rfl
    have hc2 : ∀ hp w', St (fps [stimA sT p x]) w hp w' → w'.cell? ⟨bT, oT + (j : Int).toNat, none⟩ = some (.slice Ae ne ce) := fun hp w' h => by
      have := (hcell2 hp w' h) 0 _ rfl
      simpa using this
    rw [ofRes]
    (repeat (first | (refine i_dst ?_; (first | (refine i_move ?_; refine l_q rfl rfl rfl (q_move rfl) ?_) | (refine i_assign ?_; refine l_q rfl rfl rfl (q_assign rfl) ?_) | refine l_q rfl rfl rfl (by (exact q_extract rfl rfl)) ?_)) | refine d_seq ?_ | refine l_nil ?_ | (refine i_q ?_; (refine d_then ?_))))
    (refine a_begin mixed [blk b5 [.int .u8 kind, .int .u8 code, .slice B k cb] 32] 21 rfl (fun w h => h.subl (by first | ((repeat (first | exact SubL.nil | apply SubL.keep | apply SubL.skip)); done) | fail)) ?_)
    ((refine a_q 0 rfl rfl rfl rfl rfl (by decide +kernel) (q_move rfl) ?_; refine a_q 1 rfl rfl rfl rfl rfl (by decide +kernel) (by (exact q_eqnil tab rfl rfl rfl)) ?_; refine a_q 2 rfl rfl rfl rfl rfl (by decide +kernel) (q_move rfl) ?_; (refine a_gt 3 rfl rfl rfl rfl rfl rfl rfl (by decide +kernel) (q_move rfl) ?_); (refine a_gt 4 rfl rfl rfl rfl rfl rfl rfl (by decide +kernel) (by (exact q_not rfl)) ?_); refine a_q 5 rfl rfl rfl rfl rfl (by decide +kernel) (by (exact q_pick_f rfl rfl)) ?_; refine a_q 6 rfl rfl rfl rfl rfl (by decide +kernel) (q_move rfl) ?_; ((refine a_gt 7 rfl rfl rfl rfl rfl rfl rfl (by decide +kernel) (by ((apply iq_fld; (exact q_fieldAddr tab rfl rfl rfl rfl rfl rfl rfl)))) ?_)); ((refine a_gt 8 rfl rfl rfl rfl rfl rfl rfl (by decide +kernel) (by ((exact q_ld1 tab rfl rfl rfl (by first | ((repeat (first | exact List.Mem.head _ | apply List.Mem.tail)); done) | fail) (by (rfl))))) ?_)); (refine a_gt 9 rfl rfl rfl rfl rfl rfl rfl (by decide +kernel) (by (exact q_len tab rfl rfl)) ?_); (refine a_gt 10 rfl rfl rfl rfl rfl rfl rfl (by decide +kernel) (q_move rfl) ?_); (refine a_gt 11 rfl rfl rfl rfl rfl rfl rfl (by decide +kernel) (q_move rfl) ?_); (refine a_gt 12 rfl rfl rfl rfl rfl rfl rfl (by decide +kernel) (by (exact q_indexAddr tab rfl rfl rfl rfl (by omega))) ?_); ((refine a_gt 13 rfl rfl rfl rfl rfl rfl rfl (by decide +kernel) (by ((apply iq_fld; (exact q_fieldAddr tab rfl rfl rfl rfl rfl rfl rfl)))) ?_)); (refine a_gt 14 rfl rfl rfl rfl rfl rfl rfl (by decide +kernel) (by (exact q_ldc tab rfl rfl rfl (by assumption))) ?_); (refine a_gt 15 rfl rfl rfl rfl rfl rfl rfl (by decide +kernel) (q_move rfl) ?_); (refine a_gt 16 rfl rfl rfl rfl rfl rfl rfl (by decide +kernel) (by (exact q_indexAddr1 tab rfl rfl rfl rfl (by omega))) ?_); (refine a_gt 17 rfl rfl rfl rfl rfl rfl rfl (by decide +kernel) (by (exact q_ldc tab rfl rfl rfl (by assumption))) ?_)))
    refine a_eg 18 rfl (by decide +kernel) rfl rfl rfl (fun K hK => e_call0 rfl rfl Try.func57 rfl (by decide) (fun w' h => needs_spec (hE.to (fun r hr => roOf0 h hr) (fun _ _ hx => hx)) (by omega)) (fun v B hv => ?_))
    obtain ⟨rfl, rfl⟩ := hv
    refine hK _ _ (fun w h => h.subl (by first | ((repeat (first | exact SubL.nil | apply SubL.keep | apply SubL.skip)); done) | fail)) ?_
    clear hK
    by_cases hb : b.length < needsM t
    · have et : takeS (absS x) ls code b = (absS x, false) := by
        rw [takeS, hof]
        dsimp only
        rw [if_pos (by rw [htab]; exact hb)]
      rw [et]
      (((refine a_gt 19 rfl rfl rfl rfl rfl rfl rfl (by decide +kernel) (by (exact q_lss rfl rfl)) ?_); refine a_q 20 rfl rfl rfl rfl rfl (by decide +kernel) (by (exact q_pick_f rfl rfl)) ?_))
      refine a_done (by decide +kernel) ?_
      (repeat (first | (refine i_dst ?_; ((refine i_assign ?_; refine l_q rfl rfl rfl (q_assign rfl) ?_))) | refine d_seq ?_ | refine c_region ?_ | refine l_nil ?_ | (refine i_q ?_; (first | refine d_then ?_ | refine d_then_ret ?_)) | refine c_ret ?_ | (refine i_cond ?_; (refine c_ct rfl (by (exact decide_eq_true (by omega))) ?_))))
      exact t_hp (hp' := [stimA sT p x]) (fun w h => h.subl (by first | ((repeat (first | exact SubL.nil | apply SubL.keep | apply SubL.skip)); done) | fail)) (t_ret1 Try.results32 rfl ⟨x, rfl, rfl, rfl⟩)
    · rw [takeS_some hof (by rw [htab]; exact hb)]
      (((refine a_gt 19 rfl rfl rfl rfl rfl rfl rfl (by decide +kernel) (by (exact q_lss rfl rfl)) ?_); refine a_q 20 rfl rfl rfl rfl rfl (by decide +kernel) (by (exact q_pick_f rfl rfl)) ?_))
      refine a_done (by decide +kernel) ?_
      obtain ⟨y, hy⟩ : ∃ y, x[i]? = some y := ⟨_, List.getElem?_eq_getElem (by omega)⟩
      refine t_hp (hp' := partA y :: blk p (x.map (·.v)) sT :: starL ((x.map partA).set i emp) :: starL [emp, pureA (x.length = 4), emp] :: [blk b5 [.int .u8 kind, .int .u8 code, .slice B k cb] 32]) (fun w h => stim_focus hy (h.ext (by first | ((repeat (first | exact Ext.head | apply Ext.tail)); done) | fail))) ?_
      have hxl : i < (x.map (·.v)).length := by rw [List.length_map]; omega
      by_cases hj0 : j = 0
      · subst hj0
        rw [if_pos rfl]
        have hmx' : 0 + 0 + (i : Int).toNat < (x.map (·.v)).length := by omega
        have hset : ((x.map (·.v)).set (0 + 0 + (i : Int).toNat) (.slice none 0 0))[0 + 0 + (i : Int).toNat]? = some (.slice none 0 0) := List.getElem?_set_self hmx'
        have hmx2 : 0 + 0 + (i : Int).toNat < ((x.map (·.v)).set (0 + 0 + (i : Int).toNat) (.slice none 0 0)).length := by rw [List.length_set]; exact hmx'
        (repeat (first | (refine i_dst ?_; (first | (refine i_move ?_; refine l_q rfl rfl rfl (q_move rfl) ?_) | (refine i_assign ?_; refine l_q rfl rfl rfl (q_assign rfl) ?_) | (refine i_load ?_; refine l_q rfl rfl rfl (by ((exact q_ld1 tab rfl rfl rfl (by first | ((repeat (first | exact List.Mem.head _ | apply List.Mem.tail)); done) | fail) (by (assumption))))) ?_) | (refine i_bin ?_; refine l_q rfl rfl rfl (by (first | exact q_eql rfl rfl | exact q_neq rfl rfl)) ?_) | (refine i_blt ?_; refine l_q rfl rfl rfl (by (exact q_len tab rfl rfl)) ?_) | (refine i_ix ?_; refine l_q rfl rfl rfl (by (exact q_indexAddrA1 tab rfl rfl rfl rfl (by omega))) ?_) | (refine l_q rfl rfl rfl (by (first | (apply iq_fld; (exact q_fieldAddr tab rfl rfl rfl rfl rfl rfl rfl)) | (apply iq_nck; (exact q_nilck rfl)))) ?_))) | refine d_seq ?_ | refine c_region ?_ | refine l_nil ?_ | (refine i_q ?_; (refine d_then ?_)) | refine c_skip ?_ | (refine i_store ?_; ((refine l_setI tab rfl rfl rfl rfl (by first | ((repeat (first | exact Upd.head | apply Upd.tail)); done) | fail) (by (omega)) ?_))) | (refine i_cond ?_; (first | refine c_ct rfl (by (rfl)) ?_ | refine c_cf rfl (by (first | rfl | exact decide_eq_false (by omega))) ?_))))
        refine c_hp (hp' := row 30 1 (.slice none 0 0) 0 [] :: starL (List.zipWith bytesA [] []) :: blk p ((x.map (·.v)).set (0 + 0 + (i : Int).toNat) (.slice none 0 0)) sT :: starL ((x.map partA).set i emp) :: starL [emp, pureA (x.length = 4), emp] :: [blk b5 [.int .u8 kind, .int .u8 code, .slice B k cb] 32]) (fun w h => st_nil (st_star0 (h.subl (by first | ((repeat (first | exact SubL.nil | apply SubL.keep | apply SubL.skip)); done) | fail))) _ 1) ?_
        (refine a_beginE mixed [blk p ((x.map (·.v)).set (0 + 0 + (i : Int).toNat) (.slice none 0 0)) sT, blk b5 [.int .u8 kind, .int .u8 code, .slice B k cb] 32] [blk b5 [.int .u8 kind, .int .u8 code, .slice B k cb] 32] 11 10 rfl (fun w h => h.subl (by first | ((repeat (first | exact SubL.nil | apply SubL.keep | apply SubL.skip)); done) | fail)) (fun w h => h.subl (by first | ((repeat (first | exact SubL.nil | apply SubL.keep | apply SubL.skip)); done) | fail)) ?_)
        ((refine a_q 0 rfl rfl rfl rfl rfl (by decide +kernel) (q_move rfl) ?_; refine a_q 1 rfl rfl rfl rfl rfl (by decide +kernel) (q_move rfl) ?_; refine a_q 2 rfl rfl rfl rfl rfl (by decide +kernel) (by ((apply iq_nck; (exact q_nilck rfl)))) ?_; ((refine a_y 3 rfl rfl rfl rfl rfl (by decide +kernel) (by ((exact q_ld1 tab rfl rfl rfl (by first | ((repeat (first | exact List.Mem.head _ | apply List.Mem.tail)); done) | fail) (by (assumption))))) ?_)); refine a_q 4 rfl rfl rfl rfl rfl (by decide +kernel) (by ((apply iq_fld; (exact q_fieldAddr tab rfl rfl rfl rfl rfl rfl rfl)))) ?_; ((refine a_q 5 rfl rfl rfl rfl rfl (by decide +kernel) (by ((exact q_ld1 tab rfl rfl rfl (by first | ((repeat (first | exact List.Mem.head _ | apply List.Mem.tail)); done) | fail) (by (rfl))))) ?_))))
        (refine a_e 6 rfl (by decide +kernel) rfl (fun K hK => e_call0 rfl rfl Try.func36 rfl (by decide) (fun w' h => clone_spec B k cb b w' (roOf0 h hr) hk) (fun v B hv => ?_)); obtain ⟨A', c', rfl, rfl⟩ := hv; refine hK _ _ (fun w h => h.subl (by first | ((repeat (first | exact SubL.nil | apply SubL.keep | apply SubL.skip)); done) | fail)) ?_; clear hK)
        (skip)
        (refine a_e 7 rfl (by decide +kernel) rfl (fun K hK => e_bldS tab rfl rfl rfl rfl (by first | exact CellsOf.agg | exact CellsOf.one rfl) (by first | ((repeat (first | exact RepR.zero | exact AppR.nil | apply RepR.succ | apply AppR.cons)); done) | fail) (by first | ((repeat (first | exact FillR.nil | exact LSets.nil | exact LSet.zero | exact CellsOf.agg | exact rfl | exact CellsOf.one rfl | apply FillR.cons | apply LSets.cons | apply LSet.succ)); done) | fail) (fun w => by kernel_rfl) (fun g8 => hK _ _ (fun w h => h.subl (by first | ((repeat (first | exact SubL.nil | apply SubL.keep | apply SubL.skip)); done) | fail)) ?_)); clear hK)
        (skip)
        (refine a_e 8 rfl (by decide +kernel) rfl (fun K hK => e_app tab rfl rfl rfl rowBB (by first | ((repeat (first | exact Ext.head | apply Ext.tail)); done) | fail) (news := [.slice A' b.length c']) (fun w h => SrcAt.blk (h.mem (by first | ((repeat (first | exact List.Mem.head _ | apply List.Mem.tail)); done) | fail)) rfl) (by simp [Value.oneCell']) (by omega) (by omega) (fun A3 c3 hA1 hA2 => hK _ _ (fun w h => h.subl (by first | ((repeat (first | exact SubL.nil | apply SubL.keep | apply SubL.skip)); done) | fail)) ?_)); clear hK)
        ((refine a_q 9 rfl rfl rfl rfl rfl (by decide +kernel) (by ((apply iq_nck; (exact q_nilck rfl)))) ?_))
        refine a_e 10 rfl (by decide +kernel) rfl (fun K hK => e_setI tab rfl rfl rfl rfl (by first | ((repeat (first | exact Upd.head | apply Upd.tail)); done) | fail) hmx2 (hK _ _ (fun w h => h.subl (by first | ((repeat (first | exact SubL.nil | apply SubL.keep | apply SubL.skip)); done) | fail)) ?_))
        clear hK
        refine a_done (by decide +kernel) ?_
        (repeat (first | (refine i_dst ?_; ((refine i_assign ?_; refine l_q rfl rfl rfl (q_assign rfl) ?_))) | refine d_seq ?_ | refine c_region ?_ | refine l_nil ?_ | (refine i_q ?_; (refine d_then ?_)) | refine c_ret ?_))
        refine t_hp (hp' := [stimA sT p (x.set i ⟨.slice A3 (0 + 1) c3, [] ++ [.slice A' b.length c'], [] ++ [b]⟩)]) (fun w h => ?_) (t_ret1 Try.results32 rfl ⟨_, rfl, rfl, by rw [absS_set]; rfl⟩)
        have e0 : 0 + 0 + (i : Int).toNat = i := by omega
        rw [e0, List.set_set] at h
        exact stim_unfocus (by omega) (part_shut rfl rfl (h.subl (by first | ((repeat (first | exact SubL.nil | apply SubL.keep | apply SubL.skip)); done) | fail)))
      · rw [if_neg hj0, absS_get hy]
        refine t_fact (p := ∃ Ay cy, y.v = .slice Ay y.bs.length cy ∧ y.bs.length ≤ cy ∧ cy ≤ maxLen ∧ y.vs.length = y.bs.length) (fun w h => part_v (h.get (i := 0) rfl)) ?_
        rintro ⟨Ay, cy, hyv, hy2, hy3, hy4⟩
        have hv : (x.map (·.v))[0 + 0 + (i : Int).toNat]? = some (.slice Ay y.bs.length cy) := by simp [hy, hyv]
        have hmx' : 0 + 0 + (i : Int).toNat < (x.map (·.v)).length := by omega
        by_cases hjm : j = y.bs.length
        · rw [if_pos hjm]
          (repeat (first | (refine i_dst ?_; (first | (refine i_move ?_; refine l_q rfl rfl rfl (q_move rfl) ?_) | (refine i_assign ?_; refine l_q rfl rfl rfl (q_assign rfl) ?_) | (refine i_load ?_; refine l_q rfl rfl rfl (by ((exact q_ld1 tab rfl rfl rfl (by first | ((repeat (first | exact List.Mem.head _ | apply List.Mem.tail)); done) | fail) (by (assumption))))) ?_) | (refine i_bin ?_; refine l_q rfl rfl rfl (by (first | exact q_eql rfl rfl | exact q_neq rfl rfl)) ?_) | (refine i_blt ?_; refine l_q rfl rfl rfl (by (exact q_len tab rfl rfl)) ?_) | (refine i_ix ?_; refine l_q rfl rfl rfl (by (exact q_indexAddrA1 tab rfl rfl rfl rfl (by omega))) ?_) | (refine l_q rfl rfl rfl (by (first | (apply iq_fld; (exact q_fieldAddr tab rfl rfl rfl rfl rfl rfl rfl)) | (apply iq_nck; (exact q_nilck rfl)))) ?_))) | refine d_seq ?_ | refine c_region ?_ | refine l_nil ?_ | (refine i_q ?_; (refine d_then ?_)) | refine c_skip ?_ | (refine i_cond ?_; (refine c_cf rfl (by (exact decide_eq_false (by omega))) ?_))))
          refine c_hp (hp' := row 30 1 (.slice Ay y.bs.length cy) y.bs.length y.vs :: starL (List.zipWith bytesA y.vs y.bs) :: blk p (x.map (·.v)) sT :: starL ((x.map partA).set i emp) :: starL [emp, pureA (x.length = 4), emp] :: [blk b5 [.int .u8 kind, .int .u8 code, .slice B k cb] 32]) (fun w h => by rw [← hyv, ← hy4]; exact part_open h) ?_
          (refine a_beginE mixed [blk p (x.map (·.v)) sT, blk b5 [.int .u8 kind, .int .u8 code, .slice B k cb] 32] [blk b5 [.int .u8 kind, .int .u8 code, .slice B k cb] 32] 11 10 rfl (fun w h => h.subl (by first | ((repeat (first | exact SubL.nil | apply SubL.keep | apply SubL.skip)); done) | fail)) (fun w h => h.subl (by first | ((repeat (first | exact SubL.nil | apply SubL.keep | apply SubL.skip)); done) | fail)) ?_)
          ((refine a_q 0 rfl rfl rfl rfl rfl (by decide +kernel) (q_move rfl) ?_; refine a_q 1 rfl rfl rfl rfl rfl (by decide +kernel) (q_move rfl) ?_; refine a_q 2 rfl rfl rfl rfl rfl (by decide +kernel) (by ((apply iq_nck; (exact q_nilck rfl)))) ?_; ((refine a_y 3 rfl rfl rfl rfl rfl (by decide +kernel) (by ((exact q_ld1 tab rfl rfl rfl (by first | ((repeat (first | exact List.Mem.head _ | apply List.Mem.tail)); done) | fail) (by (assumption))))) ?_)); refine a_q 4 rfl rfl rfl rfl rfl (by decide +kernel) (by ((apply iq_fld; (exact q_fieldAddr tab rfl rfl rfl rfl rfl rfl rfl)))) ?_; ((refine a_q 5 rfl rfl rfl rfl rfl (by decide +kernel) (by ((exact q_ld1 tab rfl rfl rfl (by first | ((repeat (first | exact List.Mem.head _ | apply List.Mem.tail)); done) | fail) (by (rfl))))) ?_))))
          (refine a_e 6 rfl (by decide +kernel) rfl (fun K hK => e_call0 rfl rfl Try.func36 rfl (by decide) (fun w' h => clone_spec B k cb b w' (roOf0 h hr) hk) (fun v B hv => ?_)); obtain ⟨A', c', rfl, rfl⟩ := hv; refine hK _ _ (fun w h => h.subl (by first | ((repeat (first | exact SubL.nil | apply SubL.keep | apply SubL.skip)); done) | fail)) ?_; clear hK)
          (skip)
          (refine a_e 7 rfl (by decide +kernel) rfl (fun K hK => e_bldS tab rfl rfl rfl rfl (by first | exact CellsOf.agg | exact CellsOf.one rfl) (by first | ((repeat (first | exact RepR.zero | exact AppR.nil | apply RepR.succ | apply AppR.cons)); done) | fail) (by first | ((repeat (first | exact FillR.nil | exact LSets.nil | exact LSet.zero | exact CellsOf.agg | exact rfl | exact CellsOf.one rfl | apply FillR.cons | apply LSets.cons | apply LSet.succ)); done) | fail) (fun w => by kernel_rfl) (fun g8 => hK _ _ (fun w h => h.subl (by first | ((repeat (first | exact SubL.nil | apply SubL.keep | apply SubL.skip)); done) | fail)) ?_)); clear hK)
          (skip)
          (refine a_e 8 rfl (by decide +kernel) rfl (fun K hK => e_app tab rfl rfl rfl rowBB (by first | ((repeat (first | exact Ext.head | apply Ext.tail)); done) | fail) (news := [.slice A' b.length c']) (fun w h => SrcAt.blk (h.mem (by first | ((repeat (first | exact List.Mem.head _ | apply List.Mem.tail)); done) | fail)) rfl) (by simp [Value.oneCell']) (by omega) (by omega) (fun A3 c3 hA1 hA2 => hK _ _ (fun w h => h.subl (by first | ((repeat (first | exact SubL.nil | apply SubL.keep | apply SubL.skip)); done) | fail)) ?_)); clear hK)
          ((refine a_q 9 rfl rfl rfl rfl rfl (by decide +kernel) (by ((apply iq_nck; (exact q_nilck rfl)))) ?_))
          refine a_e 10 rfl (by decide +kernel) rfl (fun K hK => e_setI tab rfl rfl rfl rfl (by first | ((repeat (first | exact Upd.head | apply Upd.tail)); done) | fail) hmx' (hK _ _ (fun w h => h.subl (by first | ((repeat (first | exact SubL.nil | apply SubL.keep | apply SubL.skip)); done) | fail)) ?_))
          clear hK
          refine a_done (by decide +kernel) ?_
          (repeat (first | (refine i_dst ?_; ((refine i_assign ?_; refine l_q rfl rfl rfl (q_assign rfl) ?_))) | refine d_seq ?_ | refine c_region ?_ | refine l_nil ?_ | (refine i_q ?_; (refine d_then ?_)) | refine c_ret ?_))
          refine t_hp (hp' := [stimA sT p (x.set i ⟨.slice A3 (y.bs.length + 1) c3, y.vs ++ [.slice A' b.length c'], y.bs ++ [b]⟩)]) (fun w h => ?_) (t_ret1 Try.results32 rfl ⟨_, rfl, rfl, by rw [absS_set]⟩)
          have e0 : 0 + 0 + (i : Int).toNat = i := by omega
          rw [e0] at h
          exact stim_unfocus (by omega) (part_shut hy4 hy4 (h.subl (by first | ((repeat (first | exact SubL.nil | apply SubL.keep | apply SubL.skip)); done) | fail)))
        · rw [if_neg hjm]
          (repeat (first | (refine i_dst ?_; (first | (refine i_move ?_; refine l_q rfl rfl rfl (q_move rfl) ?_) | (refine i_assign ?_; refine l_q rfl rfl rfl (q_assign rfl) ?_) | (refine i_load ?_; refine l_q rfl rfl rfl (by ((exact q_ld1 tab rfl rfl rfl (by first | ((repeat (first | exact List.Mem.head _ | apply List.Mem.tail)); done) | fail) (by (assumption))))) ?_) | (refine i_bin ?_; refine l_q rfl rfl rfl (by (first | exact q_eql rfl rfl | exact q_neq rfl rfl)) ?_) | (refine i_blt ?_; refine l_q rfl rfl rfl (by (exact q_len tab rfl rfl)) ?_) | (refine i_ix ?_; refine l_q rfl rfl rfl (by (exact q_indexAddrA1 tab rfl rfl rfl rfl (by omega))) ?_) | (refine l_q rfl rfl rfl (by (first | (apply iq_fld; (exact q_fieldAddr tab rfl rfl rfl rfl rfl rfl rfl)) | (apply iq_nck; (exact q_nilck rfl)))) ?_))) | refine d_seq ?_ | refine c_region ?_ | refine l_nil ?_ | (refine i_q ?_; (first | refine d_then ?_ | refine d_then_ret ?_)) | refine c_skip ?_ | refine c_ret ?_ | (refine i_store ?_; ((refine l_setI tab rfl rfl rfl rfl (by first | ((repeat (first | exact Upd.head | apply Upd.tail)); done) | fail) (by (omega)) ?_))) | (refine i_cond ?_; (first | refine c_ct rfl (by (exact decide_eq_true (by omega))) ?_ | refine c_cf rfl (by (exact decide_eq_false (by omega))) ?_))))
          refine t_hp (hp' := [stimA sT p (x.set i nilP)]) (fun w h => ?_) (t_ret1 Try.results32 rfl ⟨_, rfl, rfl, by rw [absS_set]; rfl⟩)
          have e0 : 0 + 0 + (i : Int).toNat = i := by omega
          rw [e0] at h
          exact stim_unfocus (by omega) (part_nil (h.subl (by first | ((repeat (first | exact SubL.nil | apply SubL.keep | apply SubL.skip)); done) | fail)))
end Go.Proofs.Ytidekbijkknlmaa

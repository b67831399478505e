/-
  Layer 12: FirePlays, walked.
-/
import Derived.Test.YtkeekkdaielipaaV3
import Derived.Test.YtkeekkdaielipaaV4
import Derived.Test.YtkeekkdaielipaaV6
set_option linter.unusedVariables false
set_option maxRecDepth 100000
namespace Go.Proofs.Ytkeekkdaielipaa
open Go.RowKit
attribute [local irreducible] TL TC TQ TK TO Qt TA

structure FActI where
  ev : Nat
  list : Nat
  st : Bool
  sw : Bool
def InFAct (v : List Value) (a : FActI) : Prop := v = [.int .u8 a.ev, .int .u8 a.list, .bool a.st, .bool a.sw] ∧ a.ev ≤ 255 ∧ a.list ≤ 255
theorem countM_congr (ls : List ListI) (e : Nat) {f g : Nat → Nat} {k : Nat} (h : f k = g k) : countM ls e f k = countM ls e g k := by rw [countM, countM, h]
theorem eventM_congr (ls : List ListI) (e : Nat) {f g : Nat → Nat} (h : ∀ k, k < 4 → f k = g k) : eventM ls e f = eventM ls e g := by
  rw [eventM, eventM, doneM, doneM]
  congr 1
  refine List.filter_congr fun k hk => ?_
  rw [h k (List.mem_range.1 hk)]
theorem set_eq1 {α : Type} {l : List α} {i : Nat} {a : α} (h : l[i]? = some a) : l.set i a = l := by
  apply List.ext_getElem?
  intro k
  by_cases e : i = k
  · subst e
    rw [List.getElem?_set_self (List.getElem?_eq_some_iff.1 h).1, h]
  · rw [List.getElem?_set_ne e]
def swOn (x : LstV) : LstV := ⟨⟨x.l.first, x.l.tabs, x.l.stim, x.l.ev, x.l.pre, x.l.pri, !x.l.on, x.l.ch⟩, x.tv, x.tvs⟩
theorem swOn_ok {S : Nat → Prop} {W : World} {x : LstV} (h : LstOk S W x) : LstOk S W (swOn x) := ⟨h.len, h.tab, h.first, h.ev, h.pre, h.pri⟩
theorem tabs_sw {xs : List LstV} {i : Nat} {x : LstV} (h : xs[i]? = some x) : (xs.set i (swOn x)).map tabsA = xs.map tabsA := by
  rw [List.map_set]
  exact set_eq1 (by rw [List.getElem?_map, h]; rfl)
attribute [local irreducible] blk row bytesA starL memA segA roB

attribute [local irreducible] fireA tabsA

set_option maxHeartbeats 8000000 in
theorem firePlays_walk (W : World) (A : Option Addr) (n c : Nat) (ls : List ListI) (hls : InS (fps []) W 8 (InList (fps []) W) A n ls) (hnc : n ≤ c) (hcm : c ≤ maxLen) (O : Option Addr) (no co : Nat) (acts : List FActI) (hac : InS (fps []) W 4 InFAct O no acts) (hoc : no ≤ co) (hom : co ≤ maxLen) :
    Calls Try.prog 8 #[.slice A n c, .slice O no co] W (Ret W [] fun v _ => v = .bool true) := by
  refine enter (vs := [.slice A n c, .slice O no co]) Try.func8 rfl Try.ntmps8 rfl (Hold.nil W) ?_
  have hmx : maxLen = 2 ^ 63 - 1 := rfl
  (repeat (first | (refine i_dst ?_; ((refine i_assign ?_; refine l_q rfl rfl rfl (q_assign rfl) ?_))) | refine d_seq ?_ | refine c_region ?_ | refine l_nil ?_ | (refine i_q ?_; (refine d_then ?_))))
  (refine l_call0 rfl rfl Try.func26 rfl (by decide) (fun w' h => shown12_spec w') (fun v B hv => ?_); obtain ⟨rfl, rfl⟩ := hv)
  (repeat (first | (refine i_dst ?_; (first | (refine i_move ?_; refine l_q rfl rfl rfl (q_move rfl) ?_) | (refine i_assign ?_; refine l_q rfl rfl rfl (q_assign rfl) ?_))) | refine d_seq ?_ | refine c_region ?_ | refine l_nil ?_ | (refine i_q ?_; (refine d_then ?_))))
  (refine l_call0 rfl rfl Try.func37 rfl (by decide) (fun w' h => few12_spec A n c ls w' (fps []) W hls (fun r hr => roOf0 h hr)) (fun v B hv => ?_); obtain ⟨A1, c1, xs0, rfl, hx1, hx2, rfl, hx3, hx4⟩ := hv)
  have hx6 : xs0.length ≤ 6 := by
    have := congrArg List.length hx3
    rw [List.length_map, fewL, List.length_map, List.length_take] at this
    omega
  obtain ⟨m, hm⟩ : ∃ m, m = xs0.length := ⟨_, rfl⟩
  rw [← hm] at hx1 hx6 ⊢
  (repeat (first | (refine i_dst ?_; ((refine i_assign ?_; refine l_q rfl rfl rfl (q_assign rfl) ?_))) | refine d_seq ?_ | refine c_region ?_ | refine l_nil ?_ | (refine i_q ?_; (refine d_then ?_))))
  (refine l_call0 rfl rfl Try.func27 rfl (by decide) (fun w' h => fnew_spec w') (fun v B hv => ?_); obtain ⟨p, rfl, rfl⟩ := hv)
  (repeat (first | (refine i_dst ?_; (first | (refine i_move ?_; refine l_q rfl rfl rfl (q_move rfl) ?_) | (refine i_assign ?_; refine l_q rfl rfl rfl (q_assign rfl) ?_) | (refine i_blt ?_; refine l_q rfl rfl rfl (by (first | exact q_len tab rfl rfl | exact q_minN rfl rfl)) ?_) | (refine i_sl ?_; refine l_q rfl rfl rfl (by (exact q_slHi tab rfl rfl rfl rfl (by first | (with_reducible exact Int.toNat_natCast _) | (with_reducible exact Int.toNat_zero) | (with_reducible exact Int.toNat_one) | rfl) (by (omega)))) ?_) | (refine i_box ?_; (refine l_boxA rfl rfl (fun _ => ?_))) | (refine l_q rfl rfl rfl (by ((apply iq_bld; ((exact q_bld tab rfl rfl rfl (by first | ((repeat (first | exact FillR.nil | exact LSets.nil | exact LSet.zero | exact CellsOf.agg | exact rfl | exact CellsOf.one rfl | apply FillR.cons | apply LSets.cons | apply LSet.succ)); done) | fail) (fun w => by kernel_rfl)))))) ?_))) | refine d_seq ?_ | refine c_region ?_ | refine l_nil ?_ | refine c_block ?_ | (refine i_q ?_; (refine d_then ?_))))
  rename_i q
  refine d_loop (T := Nat × (Nat → Nat) × (Nat → Nat) × List LstV) [5, 6, 7, 8] (fun t => [(23, .int .i64 t.1), (21, .slice O (min no 80) co), (22, .int .i64 ((min no 80 : Nat) : Int))]) [] (fun t => [fireA fT p t.2.1, fireA rfT q t.2.2.1, row 42 8 (.slice A1 m c1) m (t.2.2.2.flatMap lstCells), starL (t.2.2.2.map tabsA)]) (fun t => t.1 ≤ min no 80 ∧ (∀ k, k < 4 → t.2.1 k = t.2.2.1 k ∧ t.2.1 k ≤ t.1) ∧ t.2.2.2.length = m ∧ ∀ x ∈ t.2.2.2, LstOk (fps []) W x) (fun t => min no 80 - t.1) (0, fun _ => 0, fun _ => 0, xs0) (by first | ((repeat (first | exact Pick.nil | exact rfl | apply Pick.cons)); done) | fail) ⟨Nat.zero_le _, fun k _ => ⟨rfl, Nat.le_refl _⟩, hm.symm, hx4⟩ (by first | ((repeat (first | exact trivial | exact rfl | apply Sub.cons | exact look_int rfl (by omega) | exact look_int rfl (by simp) | exact look_int rfl (by simp; omega))); done) | fail) (fun w h => (h.see (i := 0) (Y := fireA rfT q (fun _ => 0)) rfl (fun h => by unfold fireA; exact h) (fun b hb => by unfold fireA at hb; exact hb)).psub (by first | ((repeat (first | exact PSub.nil | exact Ext.head | apply Ext.tail | apply PSub.cons)); done) | fail)) ?_
  rintro ⟨j, f, g, xs⟩ ⟨hj, hfg, hxl, hok⟩
  dsimp only at hj hfg hxl hok ⊢
  by_cases hlt : j < min no 80
  · obtain ⟨a, haj⟩ : ∃ a, acts[j]? = some a := ⟨_, List.getElem?_eq_getElem (by rw [hac.len]; omega)⟩
    obtain ⟨bA, oA, r, rfl, hrl, ⟨rfl, ha1, ha2⟩, hcell⟩ := hac.get (by omega) haj
    obtain ⟨aev, ali, ast, asw⟩ := a
    clear hrl
    dsimp only at ha1 ha2 hcell
    cases ast with
    | true =>
      (repeat (first | (refine i_dst ?_; (first | (refine i_move ?_; refine l_q rfl rfl rfl (q_move rfl) ?_) | (refine i_load ?_; refine l_q rfl rfl rfl (by (first | (exact q_ld1 tab rfl rfl rfl (by first | ((repeat (first | exact List.Mem.head _ | apply List.Mem.tail)); done) | fail) (by (rfl))) | exact q_ldcN tab rfl rfl rfl rfl (by assumption) rfl)) ?_) | (refine i_bin ?_; refine l_q rfl rfl rfl (by (first | exact q_lss rfl rfl | exact q_sub rfl rfl (by (exact wr_i64 (by omega))))) ?_) | (refine i_ix ?_; refine l_q rfl rfl rfl (by (exact q_indexAddr tab rfl rfl rfl rfl (by omega))) ?_) | (refine i_alloc ?_; (refine l_allocA tab rfl rfl (fun _ => ?_))) | (refine l_q rfl rfl rfl (by (first | (apply iq_fld; (exact q_fieldAddr tab rfl rfl rfl rfl rfl rfl rfl)) | (apply iq_cv; (exact q_conv tab rfl rfl rfl (by (exact wr_i64 (by omega))))))) ?_))) | refine d_seq ?_ | refine c_region ?_ | refine l_nil ?_ | refine c_block ?_ | (refine i_q ?_; (refine d_then ?_)) | refine c_skip ?_ | (refine i_store ?_; ((refine l_setN tab rfl rfl rfl rfl (List.cons_ne_nil _ _) rfl (by first | ((repeat (first | exact Upd.head | apply Upd.tail)); done) | fail) (by first | ((repeat (first | exact LSets.nil | exact LSet.zero | apply LSets.cons | apply LSet.succ)); done) | fail) ?_))) | (refine i_cond ?_; (refine c_ct rfl (by (first | rfl | exact decide_eq_true (by omega))) ?_))))
      rename_i ga
      (refine l_call1 (X := fireA fT p f) (by first | ((repeat (first | exact Ext.head | apply Ext.tail)); done) | fail) rfl rfl Try.func38 rfl (by decide) (fun w' h => fstart_spec h.split ((ali : Int) - 1)) (fun v B hv => ?_); obtain rfl := hv)
      (repeat (first | (refine i_dst ?_; (first | (refine i_move ?_; refine l_q rfl rfl rfl (q_move rfl) ?_) | (refine i_load ?_; refine l_q rfl rfl rfl (by ((exact q_ld1 tab rfl rfl rfl (by first | ((repeat (first | exact List.Mem.head _ | apply List.Mem.tail)); done) | fail) (by (rfl))))) ?_) | (refine i_bin ?_; refine l_q rfl rfl rfl (by (exact q_sub rfl rfl (by (exact wr_i64 (by omega))))) ?_) | (refine l_q rfl rfl rfl (by (first | (apply iq_fld; (exact q_fieldAddr tab rfl rfl rfl rfl rfl rfl rfl)) | (apply iq_cv; (exact q_conv tab rfl rfl rfl (by (exact wr_i64 (by omega))))))) ?_))) | refine d_seq ?_ | refine c_region ?_ | refine l_nil ?_ | (refine i_q ?_; (refine d_then ?_))))
      (refine l_call1 (X := fireA rfT q g) (by first | ((repeat (first | exact Ext.head | apply Ext.tail)); done) | fail) rfl rfl Try.func39 rfl (by decide) (fun w' h => rfstart_spec h.split ((ali : Int) - 1)) (fun v B hv => ?_); obtain rfl := hv)
      (repeat (first | (refine i_dst ?_; (first | (refine i_move ?_; refine l_q rfl rfl rfl (q_move rfl) ?_) | (refine i_bin ?_; refine l_q rfl rfl rfl (by (exact q_add rfl rfl (by (exact wr_i64 (by omega))))) ?_))) | refine c_region ?_ | refine l_nil ?_ | (refine i_q ?_; (first | refine d_then ?_ | refine t_then ?_ | refine d_then_exit ?_ | refine t_block_eq rfl ?_)) | refine c_exit ?_))
      refine k_again (j + 1, (if 0 ≤ (ali : Int) - 1 then upd f ((ali : Int) - 1).toNat 0 else f), (if 0 ≤ (ali : Int) - 1 then upd g ((ali : Int) - 1).toNat 0 else g), xs) ⟨by dsimp only; omega, fun k hk => ?_, hxl, hok⟩ (by dsimp only; omega) (by first | ((repeat (first | exact trivial | exact rfl | apply Sub.cons | exact look_int rfl (by omega) | exact look_int rfl (by simp) | exact look_int rfl (by simp; omega))); done) | fail) (fun w h => h.psub (by first | ((repeat (first | exact PSub.nil | exact Ext.head | apply Ext.tail | apply PSub.cons)); done) | fail))
      dsimp only
      have q2 := hfg k hk
      split
      · rw [upd, upd]
        split
        · omega
        · omega
      · omega
    | false =>
      by_cases hsw : asw = true ∧ ali < m
      · obtain ⟨rfl, hlm⟩ := hsw
        obtain ⟨x, hxi⟩ : ∃ x, xs[ali]? = some x := ⟨_, List.getElem?_eq_getElem (by omega)⟩
        have hl8 : (xs.flatMap lstCells).length = m * 8 := by rw [length_flat len_lst, hxl]
        (repeat (first | (refine i_dst ?_; (first | (refine i_move ?_; refine l_q rfl rfl rfl (q_move rfl) ?_) | (refine i_load ?_; refine l_q rfl rfl rfl (by (first | (exact q_ld1 tab rfl rfl rfl (by first | ((repeat (first | exact List.Mem.head _ | apply List.Mem.tail)); done) | fail) (by (rfl))) | exact q_ldcN tab rfl rfl rfl rfl (by assumption) rfl)) ?_) | (refine i_bin ?_; refine l_q rfl rfl rfl (by (exact q_lss rfl rfl)) ?_) | (refine i_blt ?_; refine l_q rfl rfl rfl (by (exact q_len tab rfl rfl)) ?_) | (refine i_ix ?_; refine l_q rfl rfl rfl (by (exact q_indexAddr tab rfl rfl rfl rfl (by omega))) ?_) | (refine i_alloc ?_; (refine l_allocA tab rfl rfl (fun _ => ?_))) | (refine l_q rfl rfl rfl (by (first | (apply iq_fld; (exact q_fieldAddr tab rfl rfl rfl rfl rfl rfl rfl)) | (apply iq_cv; (exact q_conv tab rfl rfl rfl (by (exact wr_i64 (by omega))))) | exact q_pick_t rfl rfl)) ?_))) | refine d_seq ?_ | refine c_region ?_ | refine l_nil ?_ | refine c_block ?_ | (refine i_q ?_; (refine d_then ?_)) | refine c_skip ?_ | (refine i_guard ?_; (refine l_gt rfl rfl rfl ?_)) | (refine i_store ?_; ((refine l_setN tab rfl rfl rfl rfl (List.cons_ne_nil _ _) rfl (by first | ((repeat (first | exact Upd.head | apply Upd.tail)); done) | fail) (by first | ((repeat (first | exact LSets.nil | exact LSet.zero | apply LSets.cons | apply LSet.succ)); done) | fail) ?_))) | (refine i_cond ?_; (first | refine c_ct rfl (by (exact decide_eq_true (by omega))) ?_ | refine c_cf rfl (by (rfl)) ?_))))
        rename_i ga
        refine c_ex (hp' := fun z : Nat × List Value => blk z.1 (xs.flatMap lstCells ++ z.2) 42 :: [fireA fT p f, fireA rfT q g, starL (xs.map tabsA), blk ga [.int .u8 aev, .int .u8 ali, .bool false, .bool true] 88]) (fun w h => row_open (e := 42) (size := 8) (A := A1) (n := m) (c := c1) (by omega) (h.psub (by first | ((repeat (first | exact PSub.nil | exact Ext.head | apply Ext.tail | apply PSub.cons)); done) | fail))) ?_
        rintro ⟨gr, junk⟩ ⟨rfl, hg1, hg2, hg3⟩
        dsimp only at hg3 ⊢
        have hv6 : (xs.flatMap lstCells ++ junk)[0 + (ali : Int).toNat * 8 + 6]? = some (.bool x.l.on) := by
          rw [Int.toNat_natCast, Nat.zero_add, List.getElem?_append_left (by omega)]
          exact flat_get len_lst hxi rfl
        have ho6 : 0 + (ali : Int).toNat * 8 + 6 < (xs.flatMap lstCells ++ junk).length := by rw [Int.toNat_natCast, List.length_append]; omega
        have hok' : ∀ y ∈ xs.set ali (swOn x), LstOk (fps []) W y := fun y hy => by
          rcases List.mem_or_eq_of_mem_set hy with h | h
          · exact hok y h
          · subst h
            exact swOn_ok (hok x (List.mem_of_getElem? hxi))
        have hxl' : (xs.set ali (swOn x)).length = m := by rw [List.length_set]; exact hxl
        have e9 : (xs.flatMap lstCells ++ junk).set (0 + (ali : Int).toNat * 8 + 6) (.bool !x.l.on) = (xs.set ali (swOn x)).flatMap lstCells ++ junk := by
          rw [Int.toNat_natCast, Nat.zero_add, List.set_append_left _ _ (by omega), flat_set len_lst hxi (k := 6) (v := .bool !x.l.on) (y := swOn x) (by omega) rfl]
        (refine a_beginE mixed [blk gr (xs.flatMap lstCells ++ junk) 42, blk ga [.int .u8 aev, .int .u8 ali, .bool false, .bool true] 88] [blk ga [.int .u8 aev, .int .u8 ali, .bool false, .bool true] 88] 13 12 rfl (fun w h => h.subl (by first | ((repeat (first | exact SubL.nil | apply SubL.keep | apply SubL.skip)); done) | fail)) (fun w h => h.subl (by first | ((repeat (first | exact SubL.nil | apply SubL.keep | apply SubL.skip)); done) | fail)) ?_)
        ((refine a_q 0 rfl rfl rfl rfl rfl (by decide +kernel) (q_move rfl) ?_; refine a_q 1 rfl rfl rfl rfl rfl (by decide +kernel) (by ((apply iq_fld; (exact q_fieldAddr tab rfl rfl rfl rfl rfl rfl rfl)))) ?_; ((refine a_q 2 rfl rfl rfl rfl rfl (by decide +kernel) (by ((exact q_ld1 tab rfl rfl rfl (by first | ((repeat (first | exact List.Mem.head _ | apply List.Mem.tail)); done) | fail) (by (rfl))))) ?_)); refine a_q 3 rfl rfl rfl rfl rfl (by decide +kernel) (q_move rfl) ?_; refine a_q 4 rfl rfl rfl rfl rfl (by decide +kernel) (by ((apply iq_fld; (exact q_fieldAddr tab rfl rfl rfl rfl rfl rfl rfl)))) ?_; ((refine a_q 5 rfl rfl rfl rfl rfl (by decide +kernel) (by ((exact q_ld1 tab rfl rfl rfl (by first | ((repeat (first | exact List.Mem.head _ | apply List.Mem.tail)); done) | fail) (by (rfl))))) ?_)); refine a_q 6 rfl rfl rfl rfl rfl (by decide +kernel) (by (exact q_indexAddr tab rfl rfl rfl rfl (by omega))) ?_; refine a_q 7 rfl rfl rfl rfl rfl (by decide +kernel) (by ((apply iq_fld; (exact q_fieldAddr tab rfl rfl rfl rfl rfl rfl rfl)))) ?_; ((refine a_y 8 rfl rfl rfl rfl rfl (by decide +kernel) (by ((exact q_ld1 tab rfl rfl rfl (by first | ((repeat (first | exact List.Mem.head _ | apply List.Mem.tail)); done) | fail) (by (assumption))))) ?_)); refine a_q 9 rfl rfl rfl rfl rfl (by decide +kernel) (by (exact q_not rfl)) ?_; refine a_q 10 rfl rfl rfl rfl rfl (by decide +kernel) (by (exact q_indexAddr tab rfl rfl rfl rfl (by omega))) ?_; refine a_q 11 rfl rfl rfl rfl rfl (by decide +kernel) (by ((apply iq_fld; (exact q_fieldAddr tab rfl rfl rfl rfl rfl rfl rfl)))) ?_))
        refine a_e 12 rfl (by decide +kernel) rfl (fun K hK => e_setI tab rfl rfl rfl rfl (by first | ((repeat (first | exact Upd.head | apply Upd.tail)); done) | fail) ho6 (hK _ _ (fun w h => h.subl (by first | ((repeat (first | exact SubL.nil | apply SubL.keep | apply SubL.skip)); done) | fail)) ?_))
        clear hK
        refine a_done (by decide +kernel) ?_
        refine t_hp (hp' := row 42 8 (.slice (some ⟨gr, 0, none⟩) m c1) m ((xs.set ali (swOn x)).flatMap lstCells) :: [fireA fT p f, fireA rfT q g, starL ((xs.set ali (swOn x)).map tabsA), blk ga [.int .u8 aev, .int .u8 ali, .bool false, .bool true] 88]) (fun w h => by
          rw [e9] at h
          rw [tabs_sw hxi]
          exact row_shut (junk := junk) hg1 hg2 (by rw [length_flat len_lst, hxl']) (by rw [List.length_append, length_flat len_lst, hxl']; rw [List.length_append, hl8] at hg3; exact hg3) h) ?_
        (repeat (first | refine d_seq ?_ | (refine i_q ?_; (refine d_then ?_))))
        have hpri : ∀ l ∈ (xs.set ali (swOn x)).map (·.l), l.pri ≤ 255 := fun l hl => by
          obtain ⟨x, hx, rfl⟩ := List.mem_map.1 hl
          exact (hok' x hx).pri
        have heq := eventM_congr ((xs.set ali (swOn x)).map (·.l)) aev (fun k hk => (hfg k hk).1)
        (refine a_begin mixed [blk ga [.int .u8 aev, .int .u8 ali, .bool false, .bool true] 88] 12 rfl (fun w h => h.subl (by first | ((repeat (first | exact SubL.nil | apply SubL.keep | apply SubL.skip)); done) | fail)) ?_)
        ((refine a_q 0 rfl rfl rfl rfl rfl (by decide +kernel) (q_move rfl) ?_; refine a_q 1 rfl rfl rfl rfl rfl (by decide +kernel) (by ((apply iq_fld; (exact q_fieldAddr tab rfl rfl rfl rfl rfl rfl rfl)))) ?_; ((refine a_q 2 rfl rfl rfl rfl rfl (by decide +kernel) (by ((exact q_ld1 tab rfl rfl rfl (by first | ((repeat (first | exact List.Mem.head _ | apply List.Mem.tail)); done) | fail) (by (rfl))))) ?_)); refine a_q 3 rfl rfl rfl rfl rfl (by decide +kernel) (q_move rfl) ?_; refine a_q 5 rfl rfl rfl rfl rfl (by decide +kernel) (q_move rfl) ?_; refine a_q 6 rfl rfl rfl rfl rfl (by decide +kernel) (by ((apply iq_fld; (exact q_fieldAddr tab rfl rfl rfl rfl rfl rfl rfl)))) ?_; ((refine a_q 7 rfl rfl rfl rfl rfl (by decide +kernel) (by ((exact q_ld1 tab rfl rfl rfl (by first | ((repeat (first | exact List.Mem.head _ | apply List.Mem.tail)); done) | fail) (by (rfl))))) ?_)); refine a_q 8 rfl rfl rfl rfl rfl (by decide +kernel) (q_move rfl) ?_))
        (refine a_e 4 rfl (by decide +kernel) rfl (fun K hK => e_call1 (X := fireA fT p f) (by first | ((repeat (first | exact Ext.head | apply Ext.tail)); done) | fail) rfl rfl Try.func28 rfl (by decide) (fun w' h => fevent_spec h.split aev ha1 (some ⟨gr, 0, none⟩) m c1 _ (lists_in hxl' (h.roHp (Y := row 42 8 (.slice (some ⟨gr, 0, none⟩) m c1) m ((xs.set ali (swOn x)).flatMap lstCells)) (by first | ((repeat (first | exact List.Mem.head _ | apply List.Mem.tail)); done) | fail)) (h.roHp (Y := starL ((xs.set ali (swOn x)).map tabsA)) (by first | ((repeat (first | exact List.Mem.head _ | apply List.Mem.tail)); done) | fail)) hok' (fun r hr => h.roOf hr (fun X hX => by simp at hX; simp [hX]))) hx1 hx2 (fun k hk => by have := (hfg k hk).2; omega)) (fun v B hv => ?_)); obtain ⟨f2, A6, c6, rfl, rfl, hf2⟩ := hv; refine hK _ _ (fun w h => h.subl (by first | ((repeat (first | exact SubL.nil | apply SubL.keep | apply SubL.skip)); done) | fail)) ?_; clear hK)
        (skip)
        (refine a_e 9 rfl (by decide +kernel) rfl (fun K hK => e_call1 (X := fireA rfT q g) (by first | ((repeat (first | exact Ext.head | apply Ext.tail)); done) | fail) rfl rfl Try.func40 rfl (by decide) (fun w' h => rfevent_spec h.split aev ha1 (some ⟨gr, 0, none⟩) m c1 _ (lists_in hxl' (h.roHp (Y := row 42 8 (.slice (some ⟨gr, 0, none⟩) m c1) m ((xs.set ali (swOn x)).flatMap lstCells)) (by first | ((repeat (first | exact List.Mem.head _ | apply List.Mem.tail)); done) | fail)) (h.roHp (Y := starL ((xs.set ali (swOn x)).map tabsA)) (by first | ((repeat (first | exact List.Mem.head _ | apply List.Mem.tail)); done) | fail)) hok' (fun r hr => h.roOf hr (fun X hX => by simp at hX; simp [hX]))) hx1 hx2 hpri (fun k hk => by have := (hfg k hk).2; have := (hfg k hk).1; omega)) (fun v B hv => ?_)); obtain ⟨g2, A7, c7, rfl, rfl, hg2⟩ := hv; refine hK _ _ (fun w h => h.subl (by first | ((repeat (first | exact SubL.nil | apply SubL.keep | apply SubL.skip)); done) | fail)) ?_; clear hK)
        (skip)
        (refine a_e 10 rfl (by decide +kernel) rfl (fun K hK => e_call0 rfl rfl Try.func29 rfl (by decide) (fun w' h => ints_spec (Ro.rowI (Ro.empty (h.mem (X := row _ 1 (.slice A6 _ c6) _ (iv (eventM ((xs.set ali (swOn x)).map (·.l)) aev f))) (by first | ((repeat (first | exact List.Mem.head _ | apply List.Mem.tail)); done) | fail)))) (Ro.rowI (Ro.empty (h.mem (X := row _ 1 (.slice A7 _ c7) _ (iv (eventM ((xs.set ali (swOn x)).map (·.l)) aev g))) (by first | ((repeat (first | exact List.Mem.head _ | apply List.Mem.tail)); done) | fail)))) (by have := eventM_len ((xs.set ali (swOn x)).map (·.l)) aev f; omega)) (fun v B hv => ?_)); obtain ⟨rfl, rfl⟩ := hv; refine hK _ _ (fun w h => h.subl (by first | ((repeat (first | exact SubL.nil | apply SubL.keep | apply SubL.skip)); done) | fail)) ?_; clear hK)
        rw [decide_eq_true heq]
        ((refine a_q 11 rfl rfl rfl rfl rfl (by decide +kernel) (by (exact q_not rfl)) ?_))
        refine a_done (by decide +kernel) ?_
        (repeat (first | (refine i_dst ?_; (first | (refine i_move ?_; refine l_q rfl rfl rfl (q_move rfl) ?_) | (refine i_bin ?_; refine l_q rfl rfl rfl (by (exact q_add rfl rfl (by (exact wr_i64 (by omega))))) ?_))) | refine c_region ?_ | refine l_nil ?_ | (refine i_q ?_; (first | refine d_then ?_ | refine t_then ?_ | refine t_block ?_)) | refine c_skip ?_ | (refine i_cond ?_; (refine c_cf rfl (by (rfl)) ?_))))
        exact k_again (j + 1, f2, g2, (xs.set ali (swOn x))) ⟨by dsimp only; omega, fun k hk => by
          dsimp only
          have q1 := countM_le ((xs.set ali (swOn x)).map (·.l)) aev f k
          have q2 := hfg k hk
          refine ⟨?_, by rw [hf2 k hk]; omega⟩
          rw [hf2 k hk, hg2 k hk]
          exact countM_congr _ _ q2.1, hxl', hok'⟩ (by dsimp only; omega) (by first | ((repeat (first | exact trivial | exact rfl | apply Sub.cons | exact look_int rfl (by omega) | exact look_int rfl (by simp) | exact look_int rfl (by simp; omega))); done) | fail) (fun w h => h.psub (by first | ((repeat (first | exact PSub.nil | exact Ext.head | apply Ext.tail | apply PSub.cons)); done) | fail))
      · cases asw with
        | false =>
          (repeat (first | (refine i_dst ?_; (first | (refine i_move ?_; refine l_q rfl rfl rfl (q_move rfl) ?_) | (refine i_load ?_; refine l_q rfl rfl rfl (by (first | (exact q_ld1 tab rfl rfl rfl (by first | ((repeat (first | exact List.Mem.head _ | apply List.Mem.tail)); done) | fail) (by (rfl))) | exact q_ldcN tab rfl rfl rfl rfl (by assumption) rfl)) ?_) | (refine i_bin ?_; refine l_q rfl rfl rfl (by (exact q_lss rfl rfl)) ?_) | (refine i_ix ?_; refine l_q rfl rfl rfl (by (exact q_indexAddr tab rfl rfl rfl rfl (by omega))) ?_) | (refine i_alloc ?_; (refine l_allocA tab rfl rfl (fun _ => ?_))) | (refine l_q rfl rfl rfl (by (first | (apply iq_fld; (exact q_fieldAddr tab rfl rfl rfl rfl rfl rfl rfl)) | exact q_pick_f rfl rfl)) ?_))) | refine d_seq ?_ | refine c_region ?_ | refine l_nil ?_ | refine c_block ?_ | (refine i_q ?_; (refine d_then ?_)) | refine c_skip ?_ | (refine i_guard ?_; (refine l_gf rfl rfl rfl rfl rfl rfl ?_)) | (refine i_store ?_; ((refine l_setN tab rfl rfl rfl rfl (List.cons_ne_nil _ _) rfl (by first | ((repeat (first | exact Upd.head | apply Upd.tail)); done) | fail) (by first | ((repeat (first | exact LSets.nil | exact LSet.zero | apply LSets.cons | apply LSet.succ)); done) | fail) ?_))) | (refine i_cond ?_; (first | refine c_ct rfl (by (exact decide_eq_true (by omega))) ?_ | refine c_cf rfl (by (rfl)) ?_))))
          rename_i ga
          have hpri : ∀ l ∈ xs.map (·.l), l.pri ≤ 255 := fun l hl => by
            obtain ⟨x, hx, rfl⟩ := List.mem_map.1 hl
            exact (hok x hx).pri
          have heq := eventM_congr (xs.map (·.l)) aev (fun k hk => (hfg k hk).1)
          (refine a_begin mixed [blk ga [.int .u8 aev, .int .u8 ali, .bool false, .bool false] 88] 12 rfl (fun w h => h.subl (by first | ((repeat (first | exact SubL.nil | apply SubL.keep | apply SubL.skip)); done) | fail)) ?_)
          ((refine a_q 0 rfl rfl rfl rfl rfl (by decide +kernel) (q_move rfl) ?_; refine a_q 1 rfl rfl rfl rfl rfl (by decide +kernel) (by ((apply iq_fld; (exact q_fieldAddr tab rfl rfl rfl rfl rfl rfl rfl)))) ?_; ((refine a_q 2 rfl rfl rfl rfl rfl (by decide +kernel) (by ((exact q_ld1 tab rfl rfl rfl (by first | ((repeat (first | exact List.Mem.head _ | apply List.Mem.tail)); done) | fail) (by (rfl))))) ?_)); refine a_q 3 rfl rfl rfl rfl rfl (by decide +kernel) (q_move rfl) ?_; refine a_q 5 rfl rfl rfl rfl rfl (by decide +kernel) (q_move rfl) ?_; refine a_q 6 rfl rfl rfl rfl rfl (by decide +kernel) (by ((apply iq_fld; (exact q_fieldAddr tab rfl rfl rfl rfl rfl rfl rfl)))) ?_; ((refine a_q 7 rfl rfl rfl rfl rfl (by decide +kernel) (by ((exact q_ld1 tab rfl rfl rfl (by first | ((repeat (first | exact List.Mem.head _ | apply List.Mem.tail)); done) | fail) (by (rfl))))) ?_)); refine a_q 8 rfl rfl rfl rfl rfl (by decide +kernel) (q_move rfl) ?_))
          (refine a_e 4 rfl (by decide +kernel) rfl (fun K hK => e_call1 (X := fireA fT p f) (by first | ((repeat (first | exact Ext.head | apply Ext.tail)); done) | fail) rfl rfl Try.func28 rfl (by decide) (fun w' h => fevent_spec h.split aev ha1 A1 m c1 _ (lists_in hxl (h.roHp (Y := row 42 8 (.slice A1 m c1) m (xs.flatMap lstCells)) (by first | ((repeat (first | exact List.Mem.head _ | apply List.Mem.tail)); done) | fail)) (h.roHp (Y := starL (xs.map tabsA)) (by first | ((repeat (first | exact List.Mem.head _ | apply List.Mem.tail)); done) | fail)) hok (fun r hr => h.roOf hr (fun X hX => by simp at hX; simp [hX]))) hx1 hx2 (fun k hk => by have := (hfg k hk).2; omega)) (fun v B hv => ?_)); obtain ⟨f2, A6, c6, rfl, rfl, hf2⟩ := hv; refine hK _ _ (fun w h => h.subl (by first | ((repeat (first | exact SubL.nil | apply SubL.keep | apply SubL.skip)); done) | fail)) ?_; clear hK)
          (skip)
          (refine a_e 9 rfl (by decide +kernel) rfl (fun K hK => e_call1 (X := fireA rfT q g) (by first | ((repeat (first | exact Ext.head | apply Ext.tail)); done) | fail) rfl rfl Try.func40 rfl (by decide) (fun w' h => rfevent_spec h.split aev ha1 A1 m c1 _ (lists_in hxl (h.roHp (Y := row 42 8 (.slice A1 m c1) m (xs.flatMap lstCells)) (by first | ((repeat (first | exact List.Mem.head _ | apply List.Mem.tail)); done) | fail)) (h.roHp (Y := starL (xs.map tabsA)) (by first | ((repeat (first | exact List.Mem.head _ | apply List.Mem.tail)); done) | fail)) hok (fun r hr => h.roOf hr (fun X hX => by simp at hX; simp [hX]))) hx1 hx2 hpri (fun k hk => by have := (hfg k hk).2; have := (hfg k hk).1; omega)) (fun v B hv => ?_)); obtain ⟨g2, A7, c7, rfl, rfl, hg2⟩ := hv; refine hK _ _ (fun w h => h.subl (by first | ((repeat (first | exact SubL.nil | apply SubL.keep | apply SubL.skip)); done) | fail)) ?_; clear hK)
          (skip)
          (refine a_e 10 rfl (by decide +kernel) rfl (fun K hK => e_call0 rfl rfl Try.func29 rfl (by decide) (fun w' h => ints_spec (Ro.rowI (Ro.empty (h.mem (X := row _ 1 (.slice A6 _ c6) _ (iv (eventM (xs.map (·.l)) aev f))) (by first | ((repeat (first | exact List.Mem.head _ | apply List.Mem.tail)); done) | fail)))) (Ro.rowI (Ro.empty (h.mem (X := row _ 1 (.slice A7 _ c7) _ (iv (eventM (xs.map (·.l)) aev g))) (by first | ((repeat (first | exact List.Mem.head _ | apply List.Mem.tail)); done) | fail)))) (by have := eventM_len (xs.map (·.l)) aev f; omega)) (fun v B hv => ?_)); obtain ⟨rfl, rfl⟩ := hv; refine hK _ _ (fun w h => h.subl (by first | ((repeat (first | exact SubL.nil | apply SubL.keep | apply SubL.skip)); done) | fail)) ?_; clear hK)
          rw [decide_eq_true heq]
          ((refine a_q 11 rfl rfl rfl rfl rfl (by decide +kernel) (by (exact q_not rfl)) ?_))
          refine a_done (by decide +kernel) ?_
          (repeat (first | (refine i_dst ?_; (first | (refine i_move ?_; refine l_q rfl rfl rfl (q_move rfl) ?_) | (refine i_bin ?_; refine l_q rfl rfl rfl (by (exact q_add rfl rfl (by (exact wr_i64 (by omega))))) ?_))) | refine c_region ?_ | refine l_nil ?_ | (refine i_q ?_; (first | refine d_then ?_ | refine t_then ?_ | refine t_block ?_)) | refine c_skip ?_ | (refine i_cond ?_; (refine c_cf rfl (by (rfl)) ?_))))
          exact k_again (j + 1, f2, g2, xs) ⟨by dsimp only; omega, fun k hk => by
            dsimp only
            have q1 := countM_le (xs.map (·.l)) aev f k
            have q2 := hfg k hk
            refine ⟨?_, by rw [hf2 k hk]; omega⟩
            rw [hf2 k hk, hg2 k hk]
            exact countM_congr _ _ q2.1, hxl, hok⟩ (by dsimp only; omega) (by first | ((repeat (first | exact trivial | exact rfl | apply Sub.cons | exact look_int rfl (by omega) | exact look_int rfl (by simp) | exact look_int rfl (by simp; omega))); done) | fail) (fun w h => h.psub (by first | ((repeat (first | exact PSub.nil | exact Ext.head | apply Ext.tail | apply PSub.cons)); done) | fail))
        | true =>
          have hge : ¬ ali < m := fun h => hsw ⟨rfl, h⟩
          (repeat (first | (refine i_dst ?_; (first | (refine i_move ?_; refine l_q rfl rfl rfl (q_move rfl) ?_) | (refine i_load ?_; refine l_q rfl rfl rfl (by (first | (exact q_ld1 tab rfl rfl rfl (by first | ((repeat (first | exact List.Mem.head _ | apply List.Mem.tail)); done) | fail) (by (rfl))) | exact q_ldcN tab rfl rfl rfl rfl (by assumption) rfl)) ?_) | (refine i_bin ?_; refine l_q rfl rfl rfl (by (exact q_lss rfl rfl)) ?_) | (refine i_blt ?_; refine l_q rfl rfl rfl (by (exact q_len tab rfl rfl)) ?_) | (refine i_ix ?_; refine l_q rfl rfl rfl (by (exact q_indexAddr tab rfl rfl rfl rfl (by omega))) ?_) | (refine i_alloc ?_; (refine l_allocA tab rfl rfl (fun _ => ?_))) | (refine l_q rfl rfl rfl (by (first | (apply iq_fld; (exact q_fieldAddr tab rfl rfl rfl rfl rfl rfl rfl)) | (apply iq_cv; (exact q_conv tab rfl rfl rfl (by (exact wr_i64 (by omega))))) | exact q_pick_t rfl rfl)) ?_))) | refine d_seq ?_ | refine c_region ?_ | refine l_nil ?_ | refine c_block ?_ | (refine i_q ?_; (refine d_then ?_)) | refine c_skip ?_ | (refine i_guard ?_; (refine l_gt rfl rfl rfl ?_)) | (refine i_store ?_; ((refine l_setN tab rfl rfl rfl rfl (List.cons_ne_nil _ _) rfl (by first | ((repeat (first | exact Upd.head | apply Upd.tail)); done) | fail) (by first | ((repeat (first | exact LSets.nil | exact LSet.zero | apply LSets.cons | apply LSet.succ)); done) | fail) ?_))) | (refine i_cond ?_; (first | refine c_ct rfl (by (exact decide_eq_true (by omega))) ?_ | refine c_cf rfl (by (first | rfl | exact decide_eq_false (by omega))) ?_))))
          rename_i ga
          have hpri : ∀ l ∈ xs.map (·.l), l.pri ≤ 255 := fun l hl => by
            obtain ⟨x, hx, rfl⟩ := List.mem_map.1 hl
            exact (hok x hx).pri
          have heq := eventM_congr (xs.map (·.l)) aev (fun k hk => (hfg k hk).1)
          (refine a_begin mixed [blk ga [.int .u8 aev, .int .u8 ali, .bool false, .bool true] 88] 12 rfl (fun w h => h.subl (by first | ((repeat (first | exact SubL.nil | apply SubL.keep | apply SubL.skip)); done) | fail)) ?_)
          ((refine a_q 0 rfl rfl rfl rfl rfl (by decide +kernel) (q_move rfl) ?_; refine a_q 1 rfl rfl rfl rfl rfl (by decide +kernel) (by ((apply iq_fld; (exact q_fieldAddr tab rfl rfl rfl rfl rfl rfl rfl)))) ?_; ((refine a_q 2 rfl rfl rfl rfl rfl (by decide +kernel) (by ((exact q_ld1 tab rfl rfl rfl (by first | ((repeat (first | exact List.Mem.head _ | apply List.Mem.tail)); done) | fail) (by (rfl))))) ?_)); refine a_q 3 rfl rfl rfl rfl rfl (by decide +kernel) (q_move rfl) ?_; refine a_q 5 rfl rfl rfl rfl rfl (by decide +kernel) (q_move rfl) ?_; refine a_q 6 rfl rfl rfl rfl rfl (by decide +kernel) (by ((apply iq_fld; (exact q_fieldAddr tab rfl rfl rfl rfl rfl rfl rfl)))) ?_; ((refine a_q 7 rfl rfl rfl rfl rfl (by decide +kernel) (by ((exact q_ld1 tab rfl rfl rfl (by first | ((repeat (first | exact List.Mem.head _ | apply List.Mem.tail)); done) | fail) (by (rfl))))) ?_)); refine a_q 8 rfl rfl rfl rfl rfl (by decide +kernel) (q_move rfl) ?_))
          (refine a_e 4 rfl (by decide +kernel) rfl (fun K hK => e_call1 (X := fireA fT p f) (by first | ((repeat (first | exact Ext.head | apply Ext.tail)); done) | fail) rfl rfl Try.func28 rfl (by decide) (fun w' h => fevent_spec h.split aev ha1 A1 m c1 _ (lists_in hxl (h.roHp (Y := row 42 8 (.slice A1 m c1) m (xs.flatMap lstCells)) (by first | ((repeat (first | exact List.Mem.head _ | apply List.Mem.tail)); done) | fail)) (h.roHp (Y := starL (xs.map tabsA)) (by first | ((repeat (first | exact List.Mem.head _ | apply List.Mem.tail)); done) | fail)) hok (fun r hr => h.roOf hr (fun X hX => by simp at hX; simp [hX]))) hx1 hx2 (fun k hk => by have := (hfg k hk).2; omega)) (fun v B hv => ?_)); obtain ⟨f2, A6, c6, rfl, rfl, hf2⟩ := hv; refine hK _ _ (fun w h => h.subl (by first | ((repeat (first | exact SubL.nil | apply SubL.keep | apply SubL.skip)); done) | fail)) ?_; clear hK)
          (skip)
          (refine a_e 9 rfl (by decide +kernel) rfl (fun K hK => e_call1 (X := fireA rfT q g) (by first | ((repeat (first | exact Ext.head | apply Ext.tail)); done) | fail) rfl rfl Try.func40 rfl (by decide) (fun w' h => rfevent_spec h.split aev ha1 A1 m c1 _ (lists_in hxl (h.roHp (Y := row 42 8 (.slice A1 m c1) m (xs.flatMap lstCells)) (by first | ((repeat (first | exact List.Mem.head _ | apply List.Mem.tail)); done) | fail)) (h.roHp (Y := starL (xs.map tabsA)) (by first | ((repeat (first | exact List.Mem.head _ | apply List.Mem.tail)); done) | fail)) hok (fun r hr => h.roOf hr (fun X hX => by simp at hX; simp [hX]))) hx1 hx2 hpri (fun k hk => by have := (hfg k hk).2; have := (hfg k hk).1; omega)) (fun v B hv => ?_)); obtain ⟨g2, A7, c7, rfl, rfl, hg2⟩ := hv; refine hK _ _ (fun w h => h.subl (by first | ((repeat (first | exact SubL.nil | apply SubL.keep | apply SubL.skip)); done) | fail)) ?_; clear hK)
          (skip)
          (refine a_e 10 rfl (by decide +kernel) rfl (fun K hK => e_call0 rfl rfl Try.func29 rfl (by decide) (fun w' h => ints_spec (Ro.rowI (Ro.empty (h.mem (X := row _ 1 (.slice A6 _ c6) _ (iv (eventM (xs.map (·.l)) aev f))) (by first | ((repeat (first | exact List.Mem.head _ | apply List.Mem.tail)); done) | fail)))) (Ro.rowI (Ro.empty (h.mem (X := row _ 1 (.slice A7 _ c7) _ (iv (eventM (xs.map (·.l)) aev g))) (by first | ((repeat (first | exact List.Mem.head _ | apply List.Mem.tail)); done) | fail)))) (by have := eventM_len (xs.map (·.l)) aev f; omega)) (fun v B hv => ?_)); obtain ⟨rfl, rfl⟩ := hv; refine hK _ _ (fun w h => h.subl (by first | ((repeat (first | exact SubL.nil | apply SubL.keep | apply SubL.skip)); done) | fail)) ?_; clear hK)
          rw [decide_eq_true heq]
          ((refine a_q 11 rfl rfl rfl rfl rfl (by decide +kernel) (by (exact q_not rfl)) ?_))
          refine a_done (by decide +kernel) ?_
          (repeat (first | (refine i_dst ?_; (first | (refine i_move ?_; refine l_q rfl rfl rfl (q_move rfl) ?_) | (refine i_bin ?_; refine l_q rfl rfl rfl (by (exact q_add rfl rfl (by (exact wr_i64 (by omega))))) ?_))) | refine c_region ?_ | refine l_nil ?_ | (refine i_q ?_; (first | refine d_then ?_ | refine t_then ?_ | refine t_block ?_)) | refine c_skip ?_ | (refine i_cond ?_; (refine c_cf rfl (by (rfl)) ?_))))
          exact k_again (j + 1, f2, g2, xs) ⟨by dsimp only; omega, fun k hk => by
            dsimp only
            have q1 := countM_le (xs.map (·.l)) aev f k
            have q2 := hfg k hk
            refine ⟨?_, by rw [hf2 k hk]; omega⟩
            rw [hf2 k hk, hg2 k hk]
            exact countM_congr _ _ q2.1, hxl, hok⟩ (by dsimp only; omega) (by first | ((repeat (first | exact trivial | exact rfl | apply Sub.cons | exact look_int rfl (by omega) | exact look_int rfl (by simp) | exact look_int rfl (by simp; omega))); done) | fail) (fun w h => h.psub (by first | ((repeat (first | exact PSub.nil | exact Ext.head | apply Ext.tail | apply PSub.cons)); done) | fail))
  · (repeat (first | (refine i_dst ?_; (first | (refine i_move ?_; refine l_q rfl rfl rfl (q_move rfl) ?_) | (refine i_assign ?_; refine l_q rfl rfl rfl (q_assign rfl) ?_) | (refine i_bin ?_; refine l_q rfl rfl rfl (by (exact q_lss rfl rfl)) ?_))) | refine d_seq ?_ | refine c_region ?_ | refine l_nil ?_ | (refine i_q ?_; (first | refine d_then ?_ | refine d_then_exit ?_ | refine t_then_exit ?_ | refine t_block_eq rfl ?_)) | refine c_exit ?_ | refine c_ret ?_ | (refine i_cond ?_; (refine c_cf rfl (by (exact decide_eq_false (by omega))) ?_))))
    exact t_ret1 Try.results8 rfl rfl
end Go.Proofs.Ytkeekkdaielipaa

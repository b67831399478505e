/-
  TopStims, walked.
-/
import Derived.Test.YtboccjdncdaakaaK23


set_option linter.unusedVariables false
set_option maxRecDepth 100000
namespace Go.Proofs.Ytboccjdncdaakaa
open Go.RowKit
attribute [local irreducible] TL TC TQ TK TO Qt TA
attribute [local irreducible] blk row bytesA starL memA segA roB otA entA tblA tabsA stimA partA
set_option maxHeartbeats 32000000 in
theorem topStims_walk (W : World) (A : Option Addr) (n c : Nat) (ls : List ListI) (hls : InS (fps []) W 8 (InList (fps []) W) A n ls) (hnc : n ≤ c) (hcm : c ≤ maxLen) (Ab : Option Addr) (nb cb : Nat) (bs0 : List (List Int)) (hbs : InS (fps []) W 1 (InByT (fps []) W) Ab nb bs0) (hnb : nb ≤ cb) (hcb : cb ≤ maxLen) (all : Bool) :
    Calls Try.prog 3 #[.slice A n c, .slice Ab nb cb, .bool all] W (Ret W [] fun v _ => v = .bool true) := by
  have hmx : maxLen = 2 ^ 63 - 1 := rfl
  have hbl := hbs.len
  refine enter (vs := [.slice A n c, .slice Ab nb cb, .bool all]) Try.func3 rfl Try.ntmps3 rfl (Hold.nil W) ?_
  (repeat (first | (refine i_dst ?_; (first | (refine i_move ?_; refine l_q rfl rfl rfl (q_move rfl) ?_) | (refine i_assign ?_; refine l_q rfl rfl rfl (q_assign rfl) ?_))) | refine d_seq ?_ | refine c_region ?_ | refine l_nil ?_ | (refine i_q ?_; (refine d_then ?_))))
  (refine l_call0 rfl rfl Try.func4 rfl (by decide) (fun w' h => fewT_spec A n c ls w' (fps []) W hls (fun r hr => roOf0 h hr)) (fun v B hv => ?_); obtain ⟨A1, c1, xs, rfl, hx1, hx2, rfl, hx3, hx4⟩ := hv)
  have hx4l : xs.length ≤ 4 := by
    have := congrArg List.length hx3
    rw [List.length_map, fewL, List.length_map, List.length_take] at this
    omega
  (repeat (first | (refine i_dst ?_; (first | (refine i_move ?_; refine l_q rfl rfl rfl (q_move rfl) ?_) | (refine i_assign ?_; refine l_q rfl rfl rfl (q_assign rfl) ?_) | (refine i_blt ?_; refine l_q rfl rfl rfl (by (exact q_len tab rfl rfl)) ?_))) | refine d_seq ?_ | refine c_region ?_ | refine l_nil ?_ | refine c_block ?_ | (refine i_q ?_; (refine d_then ?_))))
  refine d_loop (T := Nat) [1, 2, 7, 37] (fun i => [(38, .int .i64 i)]) [starL (xs.map tabsA)] (fun i => [row 27 8 (.slice A1 xs.length c1) xs.length ((mixF scX xs i).flatMap lstCells)]) (fun i => i ≤ xs.length) (fun i => xs.length - i) 0 (by first | ((repeat (first | exact Pick.nil | exact rfl | apply Pick.cons)); done) | fail) (Nat.zero_le _) (by first | ((repeat (first | exact trivial | exact rfl | apply Sub.cons | exact look_int rfl (by omega) | exact look_int rfl (by simp) | exact look_int rfl (by simp; omega))); done) | fail) (fun w h => by rw [mixF_zero]; exact h.psub (by first | ((repeat (first | exact PSub.nil | exact Ext.head | apply Ext.tail | apply PSub.cons)); done) | fail)) ?_
  intro i hi
  by_cases hlt : i < xs.length
  · obtain ⟨x, hx⟩ : ∃ x, xs[i]? = some x := ⟨_, List.getElem?_eq_getElem hlt⟩
    refine c_ex (fun w h => row_open (by omega) h) ?_
    rintro ⟨g, junk⟩ ⟨rfl, hg1, hg2, hg3⟩
    dsimp only at hg3 ⊢
    have hml := mixF_len scX xs i
    have hfl : ((mixF scX xs i).flatMap lstCells).length = xs.length * 8 := by rw [length_flat len_lst, hml]
    have ho1 : 0 + (i : Int).toNat * 8 + 2 < ((mixF scX xs i).flatMap lstCells ++ junk).length := by rw [List.length_append, hfl]; omega
    have ho2 : 0 + (i : Int).toNat * 8 + 7 < (((mixF scX xs i).flatMap lstCells ++ junk).set (0 + (i : Int).toNat * 8 + 2) (.bool true)).length := by rw [List.length_set, List.length_append, hfl]; omega
    (repeat (first | (refine i_dst ?_; (first | (refine i_move ?_; refine l_q rfl rfl rfl (q_move rfl) ?_) | (refine i_assign ?_; refine l_q rfl rfl rfl (q_assign rfl) ?_) | (refine i_bin ?_; refine l_q rfl rfl rfl (by (first | exact q_lss rfl rfl | exact q_add rfl rfl (by (exact wr_i64 (by omega))))) ?_) | (refine i_ix ?_; refine l_q rfl rfl rfl (by (exact q_indexAddr tab rfl rfl rfl rfl (by omega))) ?_) | (refine l_q rfl rfl rfl (by ((apply iq_fld; (exact q_fieldAddr tab rfl rfl rfl rfl rfl rfl rfl)))) ?_))) | refine d_seq ?_ | refine c_region ?_ | refine l_nil ?_ | refine c_block ?_ | (refine i_q ?_; (first | refine d_then ?_ | refine t_then ?_ | refine t_block ?_)) | refine c_skip ?_ | (refine i_store ?_; ((refine l_setI tab rfl rfl rfl rfl (by first | ((repeat (first | exact Upd.head | apply Upd.tail)); done) | fail) (by (omega)) ?_))) | (refine i_cond ?_; (refine c_ct rfl (by (exact decide_eq_true (by omega))) ?_))))
    refine k_again (i + 1) (by omega) (by omega) (by first | ((repeat (first | exact trivial | exact rfl | apply Sub.cons | exact look_int rfl (by omega) | exact look_int rfl (by simp) | exact look_int rfl (by simp; omega))); done) | fail) (fun w h => ?_)
    rw [Int.toNat_natCast, Nat.zero_add, sc_cells hx] at h
    exact row_shut hg1 hg2 (by rw [length_flat len_lst, mixF_len]) (by rw [List.length_append, length_flat len_lst, mixF_len]; rw [List.length_append, hfl] at hg3; exact hg3) h
  · obtain rfl : i = xs.length := by omega
    rw [mixF_all]
    have hok2 : ∀ x ∈ xs.map scX, LstOk (fps []) W x := fun x hx => by
      obtain ⟨x0, h0, rfl⟩ := List.mem_map.1 hx
      exact scX_ok (hx4 x0 h0)
    have hfew2 : ∀ x ∈ xs.map scX, FewT x.l := fun x hx => by
      obtain ⟨x0, h0, rfl⟩ := List.mem_map.1 hx
      exact few_few (n := 4) (k := 7) (ls := ls) (by omega) x0.l (by rw [← hx3]; exact List.mem_map_of_mem h0)
    have hch2 : ∀ x ∈ xs.map scX, x.l.stim = true ∧ x.l.ch = true := fun x hx => by
      obtain ⟨x0, h0, rfl⟩ := List.mem_map.1 hx
      exact ⟨rfl, rfl⟩
    rw [← scX_map xs]
    have hlx : (xs.map scX).length = xs.length := by rw [List.length_map]
    rw [← hlx] at hx4l ⊢
    generalize xs.map scX = xs2 at *
    (repeat (first | (refine i_dst ?_; (first | (refine i_move ?_; refine l_q rfl rfl rfl (q_move rfl) ?_) | (refine i_bin ?_; refine l_q rfl rfl rfl (by (exact q_lss rfl rfl)) ?_))) | refine d_seq ?_ | refine c_region ?_ | refine l_nil ?_ | (refine i_q ?_; (first | refine d_then ?_ | refine d_then_exit ?_ | refine t_then_exit ?_ | refine t_block_eq rfl ?_)) | refine c_exit ?_ | (refine i_cond ?_; ((refine c_cf rfl (by (((first | (simp; done) | fail)))) ?_)))))
    (refine l_call2 (X := row 27 8 (.slice A1 xs2.length c1) xs2.length (xs2.flatMap lstCells)) (Y := starL (xs2.map tabsA)) (by first | ((repeat (first | exact Ext.head | apply Ext.tail)); done) | fail) (by first | ((repeat (first | exact Ext.head | apply Ext.tail)); done) | fail) rfl rfl Try.func5 rfl (by decide) (fun w' h => laid_spec h.split rfl hx4l hok2 (fun r hr => h.roOf hr (fun X hX => List.mem_append_left _ hX)) hfew2 hch2) (fun v B hv => ?_); obtain ⟨A2, c2, ys, rfl, rfl, hlaid, hy1, hy2⟩ := hv)
    (repeat (first | (refine i_dst ?_; (first | (refine i_assign ?_; refine l_q rfl rfl rfl (q_assign rfl) ?_) | (refine l_q rfl rfl rfl (by ((apply iq_bld; ((exact q_bld tab rfl rfl rfl (by first | ((repeat (first | exact FillR.nil | exact LSets.nil | exact LSet.zero | exact CellsOf.agg | exact rfl | exact CellsOf.one rfl | apply FillR.cons | apply LSets.cons | apply LSet.succ)); done) | fail) (fun w => by kernel_rfl)))))) ?_))) | refine d_seq ?_ | refine c_region ?_ | refine l_nil ?_ | (refine i_q ?_; (refine d_then ?_))))
    (refine l_call0 rfl rfl Try.func6 rfl (by decide) (fun w' h => new_spec _ ⟨64, [], []⟩ w' (mapT_in 64)) (fun v B hv => ?_); obtain ⟨_, p, m0, rfl, rfl, hm0⟩ | ⟨hno, _⟩ := hv)
    rotate_left
    · exact absurd mapT_ok hno
    (repeat (first | (refine i_dst ?_; (first | (refine i_move ?_; refine l_q rfl rfl rfl (q_move rfl) ?_) | (refine i_assign ?_; refine l_q rfl rfl rfl (q_assign rfl) ?_) | (refine l_q rfl rfl rfl (by (first | exact q_extract rfl rfl | (apply iq_bld; ((exact q_bld tab rfl rfl rfl (by first | ((repeat (first | exact FillR.nil | exact LSets.nil | exact LSet.zero | exact CellsOf.agg | exact rfl | exact CellsOf.one rfl | apply FillR.cons | apply LSets.cons | apply LSet.succ)); done) | fail) (fun w => by kernel_rfl)))))) ?_))) | refine d_seq ?_ | refine c_region ?_ | refine l_nil ?_ | (refine i_q ?_; (refine d_then ?_))))
    (refine l_call0 rfl rfl Try.func6 rfl (by decide) (fun w' h => new_spec _ ⟨64, [], []⟩ w' (mapT_in 64)) (fun v B hv => ?_); obtain ⟨_, p2, mw0, rfl, rfl, hmw0⟩ | ⟨hno, _⟩ := hv)
    rotate_left
    · exact absurd mapT_ok hno
    (repeat (first | (refine i_dst ?_; (first | (refine i_move ?_; refine l_q rfl rfl rfl (q_move rfl) ?_) | (refine i_assign ?_; refine l_q rfl rfl rfl (q_assign rfl) ?_) | refine l_q rfl rfl rfl (by (exact q_extract rfl rfl)) ?_)) | refine d_seq ?_ | refine c_region ?_ | refine l_nil ?_ | (refine i_q ?_; (refine d_then ?_))))
    (refine l_call0 rfl rfl Try.func7 rfl (by decide) (fun w' h => snew_spec w') (fun v B hv => ?_); obtain ⟨q, rfl, rfl⟩ := hv)
    (repeat (first | (refine i_dst ?_; (first | (refine i_move ?_; refine l_q rfl rfl rfl (q_move rfl) ?_) | (refine i_assign ?_; refine l_q rfl rfl rfl (q_assign rfl) ?_) | (refine i_bin ?_; refine l_q rfl rfl rfl (by (first | exact q_neq rfl rfl | exact q_eqnil tab rfl rfl rfl)) ?_) | (refine i_blt ?_; refine l_q rfl rfl rfl (by (exact q_len tab rfl rfl)) ?_) | refine l_q rfl rfl rfl (by (exact q_pick_f rfl rfl)) ?_)) | refine d_seq ?_ | refine c_region ?_ | refine l_nil ?_ | refine c_block ?_ | (refine i_q ?_; (refine d_then ?_)) | refine c_skip ?_ | (refine i_guard ?_; (refine l_gt rfl rfl rfl ?_)) | (refine i_cond ?_; (refine c_cf rfl (by (rfl)) ?_))))
    have hsh0 : Sh64 m0.abs := by rw [hm0]; exact newT_sh
    have heq0 : mw0.abs = m0.abs := by rw [hm0, hmw0]
    refine c_hp (hp' := [memA p m0, memA p2 mw0, stimA sT q [nilP, nilP, nilP, nilP]] ++ [row 27 8 (.slice A2 ys.length c2) ys.length (ys.flatMap lstCells), starL (ys.map tblA)]) (fun w h => h.psub (hp' := [memA p m0, memA p2 mw0, stimA sT q [nilP, nilP, nilP, nilP], row 27 8 (.slice A2 ys.length c2) ys.length (ys.flatMap lstCells), starL (ys.map tblA)]) (by first | ((repeat (first | exact PSub.nil | exact Ext.head | apply Ext.tail | apply PSub.cons)); done) | fail)) ?_
    refine c_rebase (fun w1 hw1 => ?_)
    have hend : ∀ B w', St (fps [memA p m0, memA p2 mw0, stimA sT q [nilP, nilP, nilP, nilP]]) w1 B w' → ∃ B', St (fps []) W B' w' := fun B w' k => ⟨_, hw1.join k⟩
    have hyok : ∀ x ∈ ys, LOk x.l := fun x hx => (hlaid.all x.l (List.mem_map_of_mem hx)).2.2.2
    have hlsr : InS (fps [memA p m0, memA p2 mw0, stimA sT q [nilP, nilP, nilP, nilP]]) w1 8 (InList (fps [memA p m0, memA p2 mw0, stimA sT q [nilP, nilP, nilP, nilP]]) w1) A2 ys.length (ys.map (·.l)) := dq_in rfl (hw1.roHp (List.Mem.head _)) (hw1.roHp (List.Mem.tail _ (List.Mem.head _))) hyok
    have hbsr : InS (fps [memA p m0, memA p2 mw0, stimA sT q [nilP, nilP, nilP, nilP]]) w1 1 (InByT (fps [memA p m0, memA p2 mw0, stimA sT q [nilP, nilP, nilP, nilP]]) w1) Ab nb bs0 := hbs.to (fun r hr => hw1.roOf hr (fun X hX => List.mem_append_left _ hX)) (fun r l ⟨Ax, cx, e1, e2, e3, e4⟩ => ⟨Ax, cx, e1, hw1.roOf e2 (fun X hX => List.mem_append_left _ hX), e3, e4⟩)
    clear hw1
    generalize fps [memA p m0, memA p2 mw0, stimA sT q [nilP, nilP, nilP, nilP]] = Sf at hend hlsr hbsr ⊢
    have hlsl : (ys.map (·.l)).length = ys.length := List.length_map ..
    generalize ys.map (·.l) = L at hlaid hlsr hlsl
    generalize ys.length = ny at hlsr hlsl hy1 hy2 ⊢
    have hny4 : ny ≤ 4 := by have := hlaid.len; omega
    have hLsm : ∀ l ∈ L, SmallL l := fun l hl => (hlaid.all l hl).2.2.2.small
    have hboct : ∀ b ∈ bs0, Oct b := fun b hb => by
      obtain ⟨j, hj⟩ := List.mem_iff_getElem?.1 hb
      obtain ⟨bx, ox, r1, -, -, ⟨Ax, cx, -, hrx, -, -⟩, -⟩ := hbs.get (by omega) hj
      exact roB_oct hrx.is
    clear hyok hx3 hx4 hok2 hfew2 hch2 hls hbs
    refine d_loop (T := Nat × MemV × MemV × List PartV) [1, 2, 7, 9, 11, 13, 81, 82] (fun t => [(83, .int .i64 t.1)]) [] (fun t => [memA p t.2.1, memA p2 t.2.2.1, stimA sT q t.2.2.2]) (fun t => t.1 ≤ ny ∧ Sh64 t.2.1.abs ∧ t.2.2.1.abs = t.2.1.abs ∧ ∀ j, t.1 ≤ j → (absS t.2.2.2).getD j [] = []) (fun t => ny - t.1) (0, m0, mw0, [nilP, nilP, nilP, nilP]) (by first | ((repeat (first | exact Pick.nil | exact rfl | apply Pick.cons)); done) | fail) ⟨Nat.zero_le _, hsh0, heq0, fun j _ => nilS_get j⟩ (by first | ((repeat (first | exact trivial | exact rfl | apply Sub.cons | exact look_int rfl (by omega) | exact look_int rfl (by simp) | exact look_int rfl (by simp; omega))); done) | fail) (fun w h => h) ?_
    clear hsh0 heq0 hm0 hmw0
    rintro ⟨i, m, mw, x⟩ ⟨hi, hsh, heq, hnil⟩
    dsimp only at hi hsh heq hnil ⊢
    by_cases hilt : i < ny
    · obtain ⟨l, hl⟩ : ∃ l, L[i]? = some l := ⟨_, List.getElem?_eq_getElem (by omega)⟩
      have hfirst := hlaid.first i l hl
      obtain ⟨hon, hstim, hpos, hlo⟩ := hlaid.all l (List.mem_of_getElem? hl)
      have htot := totT_take_le L i
      have htot2 := hlaid.tot
      have hl16 := hlo.tabs
      obtain ⟨bL, oL, r, rfl, hrl, hL, hcell⟩ := hlsr.get (by omega) hl
      obtain ⟨⟨At, nt, ct, rfl, htabs, ht1, ht2⟩, -, hev, hpre, hpri⟩ := id hL
      have htl := htabs.len
      obtain ⟨f, hf⟩ : ∃ f, f = totT (L.take i) := ⟨_, rfl⟩
      rw [hfirst, ← hf] at hcell hL
      rw [← hf] at htot
      subst htl
      refine c_fact (p := x.length = 4) (fun w h => stim_len (t := sT) (p := q) (h.mem (X := stimA sT q x) (by first | ((repeat (first | exact List.Mem.head _ | apply List.Mem.tail)); done) | fail))) ?_
      intro hx4
      (repeat (first | (refine i_dst ?_; (first | (refine i_move ?_; refine l_q rfl rfl rfl (q_move rfl) ?_) | (refine i_assign ?_; refine l_q rfl rfl rfl (q_assign rfl) ?_) | (refine i_load ?_; refine l_q rfl rfl rfl (by (first | (exact q_ld1 tab rfl rfl rfl (by first | ((repeat (first | exact List.Mem.head _ | apply List.Mem.tail)); done) | fail) (by (rfl))) | exact q_ldcN tab rfl rfl rfl rfl (by assumption) rfl)) ?_) | (refine i_bin ?_; refine l_q rfl rfl rfl (by (exact q_lss rfl rfl)) ?_) | (refine i_blt ?_; refine l_q rfl rfl rfl (by (exact q_len tab rfl rfl)) ?_) | (refine i_ix ?_; refine l_q rfl rfl rfl (by (exact q_indexAddr tab rfl rfl rfl rfl (by omega))) ?_) | (refine i_alloc ?_; (refine l_allocA tab rfl rfl (fun _ => ?_))) | (refine l_q rfl rfl rfl (by ((apply iq_fld; (exact q_fieldAddr tab rfl rfl rfl rfl rfl rfl rfl)))) ?_))) | refine d_seq ?_ | refine c_region ?_ | refine l_nil ?_ | refine c_block ?_ | (refine i_q ?_; (refine d_then ?_)) | refine c_skip ?_ | (refine i_store ?_; ((refine l_setN tab rfl rfl rfl rfl (List.cons_ne_nil _ _) rfl (by first | ((repeat (first | exact Upd.head | apply Upd.tail)); done) | fail) (by first | ((repeat (first | exact LSets.nil | exact LSet.zero | apply LSets.cons | apply LSet.succ)); done) | fail) ?_))) | (refine i_cond ?_; (first | refine c_ct rfl (by (exact decide_eq_true (by omega))) ?_ | refine c_cf rfl (by (rfl)) ?_))))
      rename_i b15
      refine d_loop (T := Nat × List PartV) [1, 2, 7, 9, 11, 13, 14, 15, 81, 82, 83, 93, 94] (fun t => [(16, .bool ((l.tabs.take t.1).all okT && all)), (95, .int .i64 t.1)]) [blk b15 [.int .i64 f, .slice At l.tabs.length ct, .bool l.stim, .int .u8 l.ev, .int .u8 l.pre, .int .u8 l.pri, .bool l.on, .bool l.ch] 27, memA p m, memA p2 mw] (fun t => [stimA sT q t.2]) (fun t => t.1 ≤ l.tabs.length ∧ absS t.2 = (absS x).set i ((ownsT bs0 f l.tabs.length).take (if all = true then t.1 else min t.1 (l.tabs.length - 1)))) (fun t => l.tabs.length - t.1) (0, x) (by first | ((repeat (first | exact Pick.nil | exact rfl | apply Pick.cons)); done) | fail) ⟨Nat.zero_le _, absS_nil0 hx4 (by omega) (hnil i (Nat.le_refl _))⟩ (by first | ((repeat (first | exact trivial | exact rfl | apply Sub.cons | exact look_int rfl (by omega) | exact look_int rfl (by simp) | exact look_int rfl (by simp; omega))); done) | fail) (fun w h => h.psub (by first | ((repeat (first | exact PSub.nil | exact Ext.head | apply Ext.tail | apply PSub.cons)); done) | fail)) ?_
      · rintro ⟨k, x'⟩ ⟨hk, hX⟩
        dsimp only at hk hX ⊢
        by_cases hklt : k < l.tabs.length
        · obtain ⟨t, ht⟩ : ∃ t, l.tabs[k]? = some t := ⟨_, List.getElem?_eq_getElem hklt⟩
          obtain ⟨hte, ht7, htn⟩ := hlo.tab t (List.mem_of_getElem? ht)
          obtain ⟨bT, oT, r2, rfl, hrl2, hT, hcell2⟩ := htabs.get (by omega) ht
          obtain ⟨Ae, ne, ce, rfl, hE, he1, he2⟩ := hT
          have hel := hE.len
          have hc2 : ∀ hp w', St Sf w1 hp w' → w'.cell? ⟨bT, oT + (k : Int).toNat, none⟩ = some (.slice Ae ne ce) := fun hp w' h => by
            have := (hcell2 hp w' h) 0 _ rfl
            simpa using this
          subst hel
          (repeat (first | (refine i_dst ?_; (first | (refine i_move ?_; refine l_q rfl rfl rfl (q_move rfl) ?_) | (refine i_assign ?_; refine l_q rfl rfl rfl (q_assign rfl) ?_) | (refine i_load ?_; refine l_q rfl rfl rfl (by (exact q_ldc tab rfl rfl rfl (by assumption))) ?_) | (refine i_bin ?_; refine l_q rfl rfl rfl (by (exact q_lss rfl rfl)) ?_) | (refine i_ix ?_; refine l_q rfl rfl rfl (by (exact q_indexAddr1 tab rfl rfl rfl rfl (by omega))) ?_))) | refine d_seq ?_ | refine c_region ?_ | refine l_nil ?_ | refine c_block ?_ | (refine i_q ?_; (refine d_then ?_)) | refine c_skip ?_ | (refine i_cond ?_; (refine c_ct rfl (by (exact decide_eq_true (by omega))) ?_))))
          refine l_make (len := 7) (cap := 7) (l := [.int .u8 0, .int .u8 0, .int .u8 0, .int .u8 0, .int .u8 0, .int .u8 0, .int .u8 0]) (e := 5) rfl rfl rfl (fun w => by kernel_rfl) (fun gd => ?_)
          (repeat (first | (refine i_dst ?_; (first | (refine i_move ?_; refine l_q rfl rfl rfl (q_move rfl) ?_) | (refine i_assign ?_; refine l_q rfl rfl rfl (q_assign rfl) ?_) | (refine i_load ?_; refine l_q rfl rfl rfl (by ((exact q_ld1 tab rfl rfl rfl (by first | ((repeat (first | exact List.Mem.head _ | apply List.Mem.tail)); done) | fail) (by (rfl))))) ?_) | (refine i_bin ?_; refine l_q rfl rfl rfl (by (first | exact q_lss rfl rfl | exact q_add rfl rfl (by (exact wr_i64 (by omega))))) ?_) | (refine i_blt ?_; refine l_q rfl rfl rfl (by (exact q_len tab rfl rfl)) ?_) | (refine l_q rfl rfl rfl (by ((apply iq_fld; (exact q_fieldAddr tab rfl rfl rfl rfl rfl rfl rfl)))) ?_))) | refine d_seq ?_ | refine c_region ?_ | refine l_nil ?_ | (refine i_q ?_; (refine d_then ?_))))
          refine d_join (α := Unit) (fun _ => True) (fun _ => []) [1, 2, 7, 9, 11, 13, 14, 15, 16, 17, 18, 19, 81, 82, 83, 93, 94, 95] (by first | ((repeat (first | exact Pick.nil | exact rfl | apply Pick.cons)); done) | fail) (fun _ => [bytesA (.slice (some ⟨gd, 0, none⟩) 7 7) (ownT bs0 (f + k)), stimA sT q x', blk b15 [.int .i64 f, .slice (some ⟨bT, oT, none⟩) l.tabs.length ct, .bool l.stim, .int .u8 l.ev, .int .u8 l.pre, .int .u8 l.pri, .bool l.on, .bool l.ch] 27, memA p m, memA p2 mw]) ?_ (fun Q' hj1 _ _ => ?_)
          rotate_left
          · by_cases hj : f + k < nb
            · obtain ⟨bb, hbb⟩ : ∃ bb, bs0[f + k]? = some bb := ⟨_, List.getElem?_eq_getElem (by omega)⟩
              have hown : ownT bs0 (f + k) = spl (List.replicate 7 0) 0 (bb.take (min bb.length 7)) := by rw [ownT, hbb]
              obtain ⟨bx, ox, r1, rfl, -, ⟨Ax, cx, rfl, hrx, hx1, hx2⟩, hcx⟩ := hbsr.get (by omega) hbb
              have hx0 : ∀ hp w', St Sf w1 hp w' → w'.cell? ⟨bx, ox + ((f : Int) + (k : Int)).toNat, none⟩ = some (.slice Ax bb.length cx) := fun hp w' h => by
                have := (hcx hp w' h) 0 _ rfl
                rw [show ((f : Int) + (k : Int)).toNat = f + k by omega]
                simpa using this
              clear hcx
              (repeat (first | (refine i_dst ?_; (first | (refine i_move ?_; refine l_q rfl rfl rfl (q_move rfl) ?_) | (refine i_load ?_; refine l_q rfl rfl rfl (by (first | (exact q_ld1 tab rfl rfl rfl (by first | ((repeat (first | exact List.Mem.head _ | apply List.Mem.tail)); done) | fail) (by (rfl))) | exact q_ldc tab rfl rfl rfl (by assumption))) ?_) | (refine i_bin ?_; refine l_q rfl rfl rfl (by (exact q_add rfl rfl (by (exact wr_i64 (by omega))))) ?_) | (refine i_ix ?_; refine l_q rfl rfl rfl (by (exact q_indexAddr1 tab rfl rfl rfl rfl (by omega))) ?_) | (refine l_q rfl rfl rfl (by ((apply iq_fld; (exact q_fieldAddr tab rfl rfl rfl rfl rfl rfl rfl)))) ?_))) | refine c_region ?_ | (refine i_cond ?_; (refine c_ct rfl (by (exact decide_eq_true (by omega))) ?_))))
              by_cases hm0 : min bb.length 7 = 0
              · refine l_op rfl (fun K hK => e_copy0 tab rfl rfl rfl rfl rfl hm0 (hK _ _ ?_))
                clear hK
                (repeat (refine l_nil ?_))
                exact hj1 () trivial _ _ (by first | ((repeat (first | exact trivial | exact rfl | apply Sub.cons | exact look_int rfl (by omega) | exact look_int rfl (by simp) | exact look_int rfl (by simp; omega))); done) | fail) (fun w h => own_st (hboct) (own_zero hown hm0) (h.psub (by first | ((repeat (first | exact PSub.nil | exact Ext.head | apply Ext.tail | apply PSub.cons)); done) | fail)))
              · refine l_op rfl (fun K hK => e_copy tab (i := 0) (news := bv bb) rfl rfl rfl rfl rfl rfl (by simp) (fun w h => roB_src (h.ro hrx)) (bv_one bb) (hK _ _ ?_))
                clear hK
                (repeat (refine l_nil ?_))
                exact hj1 () trivial _ _ (by first | ((repeat (first | exact trivial | exact rfl | apply Sub.cons | exact look_int rfl (by omega) | exact look_int rfl (by simp) | exact look_int rfl (by simp; omega))); done) | fail) (fun w h => own_st hboct (own_copy hown) (h.psub (by first | ((repeat (first | exact PSub.nil | exact Ext.head | apply Ext.tail | apply PSub.cons)); done) | fail)))
            · (repeat (first | refine c_skip ?_ | (refine i_cond ?_; (refine c_cf rfl (by (exact decide_eq_false (by omega))) ?_))))
              exact hj1 () trivial _ _ (by first | ((repeat (first | exact trivial | exact rfl | apply Sub.cons | exact look_int rfl (by omega) | exact look_int rfl (by simp) | exact look_int rfl (by simp; omega))); done) | fail) (fun w h => own_st hboct (own_none (bs := bs0) (by omega)) (h.psub (by first | ((repeat (first | exact PSub.nil | exact Ext.head | apply Ext.tail | apply PSub.cons)); done) | fail)))
          · intro _ _
            generalize hown : ownT bs0 (f + k) = own
            have howl : own.length = 7 := by rw [← hown]; exact ownT_len _ _
            (repeat (first | (refine i_dst ?_; ((refine i_move ?_; refine l_q rfl rfl rfl (q_move rfl) ?_))) | refine d_seq ?_ | refine c_region ?_))
            refine l_join2 (α := List PartV) (fun x'' => absS x'' = (absS x).set i ((ownsT bs0 f l.tabs.length).take (if all = true then k + 1 else min (k + 1) (l.tabs.length - 1)))) (fun _ => []) [1, 2, 7, 9, 11, 13, 14, 15, 16, 17, 18, 19, 81, 82, 83, 93, 94, 95] (by first | ((repeat (first | exact Pick.nil | exact rfl | apply Pick.cons)); done) | fail) (fun x'' => [stimA sT q x'', bytesA (.slice (some ⟨gd, 0, none⟩) 7 7) own, blk b15 [.int .i64 f, .slice (some ⟨bT, oT, none⟩) l.tabs.length ct, .bool l.stim, .int .u8 l.ev, .int .u8 l.pre, .int .u8 l.pri, .bool l.on, .bool l.ch] 27, memA p m, memA p2 mw]) ?_ (fun Q' hj2 hr2 => ?_)
            rotate_left
            · by_cases hlast : all = false ∧ k + 1 = l.tabs.length
              · obtain ⟨rfl, hkl⟩ := hlast
                have hcnt : (if false = true then k else min k (l.tabs.length - 1)) = (if false = true then k + 1 else min (k + 1) (l.tabs.length - 1)) := by
                  rw [if_neg (by simp), if_neg (by simp)]
                  omega
                (repeat (first | (refine i_dst ?_; (first | (refine i_move ?_; refine l_q rfl rfl rfl (q_move rfl) ?_) | (refine i_load ?_; refine l_q rfl rfl rfl (by ((exact q_ld1 tab rfl rfl rfl (by first | ((repeat (first | exact List.Mem.head _ | apply List.Mem.tail)); done) | fail) (by (rfl))))) ?_) | (refine i_bin ?_; refine l_q rfl rfl rfl (by (first | exact q_lss rfl rfl | exact q_sub rfl rfl (by (exact wr_i64 (by omega))))) ?_) | (refine i_blt ?_; refine l_q rfl rfl rfl (by (exact q_len tab rfl rfl)) ?_) | (refine l_q rfl rfl rfl (by (first | (apply iq_fld; (exact q_fieldAddr tab rfl rfl rfl rfl rfl rfl rfl)) | exact q_pick_f rfl rfl)) ?_))) | refine l_nil ?_ | (refine i_q ?_; (refine d_then ?_)) | refine c_skip ?_ | (refine i_guard ?_; (refine l_gt rfl rfl rfl ?_)) | (refine i_cond ?_; (refine c_cf rfl (by (exact decide_eq_false (by omega))) ?_))))
                exact hj2 x' (by rw [hX, hcnt]) _ _ (by first | ((repeat (first | exact trivial | exact rfl | apply Sub.cons | exact look_int rfl (by omega) | exact look_int rfl (by simp) | exact look_int rfl (by simp; omega))); done) | fail) (fun w h => h.psub (by first | ((repeat (first | exact PSub.nil | exact Ext.head | apply Ext.tail | apply PSub.cons)); done) | fail))
              · have hX' : absS x' = (absS x).set i ((ownsT bs0 f l.tabs.length).take k) := by
                  have hcnt : (if all = true then k else min k (l.tabs.length - 1)) = k := by
                    cases all
                    · have h9 : k + 1 ≠ l.tabs.length := fun e => hlast ⟨rfl, e⟩
                      rw [if_neg (by simp)]
                      omega
                    · rfl
                  rw [hX, hcnt]
                have htk : takeS (absS x') L (f + k) own = ((absS x).set i ((ownsT bs0 f l.tabs.length).take (k + 1)), true) := by
                  have h0 := take_laid hlaid hl hklt (X := absS x') bs0 f (by rw [hX']; exact set_getD (by rw [absS, List.length_map]; omega))
                  rw [← hf, hown] at h0
                  rw [h0, hX', List.set_set]
                have hnew : (ownsT bs0 f l.tabs.length).take (k + 1) = (ownsT bs0 f l.tabs.length).take (if all = true then k + 1 else min (k + 1) (l.tabs.length - 1)) := by
                  have hcnt : (if all = true then k + 1 else min (k + 1) (l.tabs.length - 1)) = k + 1 := by
                    cases all
                    · have h9 : k + 1 ≠ l.tabs.length := fun e => hlast ⟨rfl, e⟩
                      rw [if_neg (by simp)]
                      omega
                    · rfl
                  rw [hcnt]
                cases all with
                | true =>
                  (repeat (first | (refine i_dst ?_; (first | (refine i_move ?_; refine l_q rfl rfl rfl (q_move rfl) ?_) | (refine i_load ?_; refine l_q rfl rfl rfl (by ((exact q_ld1 tab rfl rfl rfl (by first | ((repeat (first | exact List.Mem.head _ | apply List.Mem.tail)); done) | fail) (by (rfl))))) ?_) | (refine i_bin ?_; refine l_q rfl rfl rfl (by (exact q_add rfl rfl (by (exact wr_i64 (by omega))))) ?_) | (refine l_q rfl rfl rfl (by (first | (apply iq_fld; (exact q_fieldAddr tab rfl rfl rfl rfl rfl rfl rfl)) | (apply iq_cv; (exact q_conv tab rfl rfl rfl (by (exact wr_u8 (by omega))))) | exact q_pick_t rfl rfl | (apply iq_bld; ((exact q_bld tab rfl rfl rfl (by first | ((repeat (first | exact FillR.nil | exact LSets.nil | exact LSet.zero | exact CellsOf.agg | exact rfl | exact CellsOf.one rfl | apply FillR.cons | apply LSets.cons | apply LSet.succ)); done) | fail) (fun w => by kernel_rfl)))))) ?_))) | refine d_seq ?_ | refine c_region ?_ | refine l_nil ?_ | (refine i_q ?_; (refine d_then ?_)) | (refine i_guard ?_; (refine l_gf rfl rfl rfl rfl rfl rfl ?_)) | (refine i_cond ?_; (refine c_ct rfl (by (rfl)) ?_))))
                  rw [show ((f : Int) + (k : Int)) = ((f + k : Nat) : Int) from rfl]
                  (refine l_call1 (X := stimA sT q x') (by first | ((repeat (first | exact Ext.head | apply Ext.tail)); done) | fail) rfl rfl Try.func8 rfl (by decide) (fun w' h => stake_spec h.split (some ⟨bL, oL, none⟩) ny c2 L (hlsr.to (fun r hr => h.roOf (A := [stimA sT q x']) hr (fun X hX => by simp at hX; simp [hX])) (fun _ _ hx => hx.to (fun r hr => h.roOf (A := [stimA sT q x']) hr (fun X hX => by simp at hX; simp [hX])))) hy1 hy2 hLsm 4 (f + k) (by omega) (some ⟨gd, 0, none⟩) 7 7 own (Ro.bytes (h.roHp (A := [stimA sT q x']) (Y := bytesA (.slice (some ⟨gd, 0, none⟩) 7 7) own) (by first | ((repeat (first | exact List.Mem.head _ | apply List.Mem.tail)); done) | fail))) (by omega)) (fun v B hv => ?_); obtain ⟨x3, rfl, rfl, hx3⟩ := hv)
                  rw [htk] at hx3 ⊢
                  (repeat (first | (refine i_dst ?_; (refine l_q rfl rfl rfl (by (exact q_not rfl)) ?_)) | refine l_nil ?_ | (refine i_q ?_; (refine d_then ?_)) | refine c_skip ?_ | (refine i_cond ?_; (refine c_cf rfl (by (rfl)) ?_))))
                  exact hj2 x3 (by rw [hx3, hnew]) _ _ (by first | ((repeat (first | exact trivial | exact rfl | apply Sub.cons | exact look_int rfl (by omega) | exact look_int rfl (by simp) | exact look_int rfl (by simp; omega))); done) | fail) (fun w h => h.psub (by first | ((repeat (first | exact PSub.nil | exact Ext.head | apply Ext.tail | apply PSub.cons)); done) | fail))
                | false =>
                  have hkl : k + 1 < l.tabs.length := by
                    have h9 : k + 1 ≠ l.tabs.length := fun e => hlast ⟨rfl, e⟩
                    omega
                  (repeat (first | (refine i_dst ?_; (first | (refine i_move ?_; refine l_q rfl rfl rfl (q_move rfl) ?_) | (refine i_load ?_; refine l_q rfl rfl rfl (by ((exact q_ld1 tab rfl rfl rfl (by first | ((repeat (first | exact List.Mem.head _ | apply List.Mem.tail)); done) | fail) (by (rfl))))) ?_) | (refine i_bin ?_; refine l_q rfl rfl rfl (by (first | exact q_lss rfl rfl | exact q_add rfl rfl (by (first | exact wr_i64 (by omega) | rfl)) | exact q_sub rfl rfl (by (exact wr_i64 (by omega))))) ?_) | (refine i_blt ?_; refine l_q rfl rfl rfl (by (exact q_len tab rfl rfl)) ?_) | (refine l_q rfl rfl rfl (by (first | (apply iq_fld; (exact q_fieldAddr tab rfl rfl rfl rfl rfl rfl rfl)) | (apply iq_cv; (exact q_conv tab rfl rfl rfl (by (exact wr_u8 (by omega))))) | exact q_pick_f rfl rfl | (apply iq_bld; ((exact q_bld tab rfl rfl rfl (by first | ((repeat (first | exact FillR.nil | exact LSets.nil | exact LSet.zero | exact CellsOf.agg | exact rfl | exact CellsOf.one rfl | apply FillR.cons | apply LSets.cons | apply LSet.succ)); done) | fail) (fun w => by kernel_rfl)))))) ?_))) | refine d_seq ?_ | refine c_region ?_ | refine l_nil ?_ | (refine i_q ?_; (refine d_then ?_)) | (refine i_guard ?_; (refine l_gt rfl rfl rfl ?_)) | (refine i_cond ?_; (refine c_ct rfl (by (exact decide_eq_true (by omega))) ?_))))
                  rw [show ((f : Int) + (k : Int)) = ((f + k : Nat) : Int) from rfl]
                  (refine l_call1 (X := stimA sT q x') (by first | ((repeat (first | exact Ext.head | apply Ext.tail)); done) | fail) rfl rfl Try.func8 rfl (by decide) (fun w' h => stake_spec h.split (some ⟨bL, oL, none⟩) ny c2 L (hlsr.to (fun r hr => h.roOf (A := [stimA sT q x']) hr (fun X hX => by simp at hX; simp [hX])) (fun _ _ hx => hx.to (fun r hr => h.roOf (A := [stimA sT q x']) hr (fun X hX => by simp at hX; simp [hX])))) hy1 hy2 hLsm 4 (f + k) (by omega) (some ⟨gd, 0, none⟩) 7 7 own (Ro.bytes (h.roHp (A := [stimA sT q x']) (Y := bytesA (.slice (some ⟨gd, 0, none⟩) 7 7) own) (by first | ((repeat (first | exact List.Mem.head _ | apply List.Mem.tail)); done) | fail))) (by omega)) (fun v B hv => ?_); obtain ⟨x3, rfl, rfl, hx3⟩ := hv)
                  rw [htk] at hx3 ⊢
                  (repeat (first | (refine i_dst ?_; (refine l_q rfl rfl rfl (by (exact q_not rfl)) ?_)) | refine l_nil ?_ | (refine i_q ?_; (refine d_then ?_)) | refine c_skip ?_ | (refine i_cond ?_; (refine c_cf rfl (by (rfl)) ?_))))
                  exact hj2 x3 (by rw [hx3, hnew]) _ _ (by first | ((repeat (first | exact trivial | exact rfl | apply Sub.cons | exact look_int rfl (by omega) | exact look_int rfl (by simp) | exact look_int rfl (by simp; omega))); done) | fail) (fun w h => h.psub (by first | ((repeat (first | exact PSub.nil | exact Ext.head | apply Ext.tail | apply PSub.cons)); done) | fail))
            · intro x'' hX2
              have hsh2 : Sh64 mw.abs := by rw [heq]; exact hsh
              have hk2 := hsh2.ok
              (repeat (first | (refine i_dst ?_; (first | (refine i_move ?_; refine l_q rfl rfl rfl (q_move rfl) ?_) | (refine i_assign ?_; refine l_q rfl rfl rfl (q_assign rfl) ?_) | (refine i_blt ?_; refine l_q rfl rfl rfl (by (exact q_len tab rfl rfl)) ?_))) | refine d_seq ?_ | refine c_region ?_ | refine l_nil ?_ | refine c_block ?_ | (refine i_q ?_; (refine d_then ?_))))
              refine d_loop (T := Nat) [1, 2, 7, 9, 11, 13, 14, 15, 19, 81, 82, 83, 93, 94, 95, 137, 138] (fun j => [(16, .bool ((t.take j).all okE && ((l.tabs.take k).all okT && all))), (20, .int .i64 (needsM (t.take j) : Nat)), (139, .int .i64 j)]) [stimA sT q x'', bytesA (.slice (some ⟨gd, 0, none⟩) 7 7) own, blk b15 [.int .i64 f, .slice (some ⟨bT, oT, none⟩) l.tabs.length ct, .bool l.stim, .int .u8 l.ev, .int .u8 l.pre, .int .u8 l.pri, .bool l.on, .bool l.ch] 27, memA p m, memA p2 mw] (fun _ => []) (fun j => j ≤ t.length) (fun j => t.length - j) 0 (by first | ((repeat (first | exact Pick.nil | exact rfl | apply Pick.cons)); done) | fail) (Nat.zero_le _) (by first | ((repeat (first | exact trivial | exact rfl | apply Sub.cons | exact look_int rfl (by omega) | exact look_int rfl (by simp) | exact look_int rfl (by simp; omega))); done) | fail) (fun w h => h) ?_
              intro j hj
              by_cases hjl : j < t.length
              · obtain ⟨e, he⟩ : ∃ e, t[j]? = some e := ⟨_, List.getElem?_eq_getElem hjl⟩
                obtain ⟨s1, s2, s3⟩ := hte e (List.mem_of_getElem? he)
                obtain ⟨bE, oE, r3, rfl, hrl3, ⟨rfl, -, -, -⟩, hcell3⟩ := hE.get (by omega) he
                have hst1 := needsM_take he
                have hle := needsM_le (t := t) (k := j + 1)
                have hnx : (t.take (j + 1)).all okE = ((t.take j).all okE && okE e) := by rw [List.take_add_one, he, List.all_append]; simp
                have hrd := sh_read hsh2 e
                generalize hs : needsM (t.take j) = s at hst1 ⊢
                (repeat (first | (refine i_dst ?_; (first | (refine i_move ?_; refine l_q rfl rfl rfl (q_move rfl) ?_) | (refine i_load ?_; refine l_q rfl rfl rfl (by (first | (exact q_ld1 tab rfl rfl rfl (by first | ((repeat (first | exact List.Mem.head _ | apply List.Mem.tail)); done) | fail) (by (rfl))) | exact q_ldcN tab rfl rfl rfl rfl (by assumption) rfl)) ?_) | (refine i_bin ?_; refine l_q rfl rfl rfl (by (first | exact q_lss rfl rfl | exact q_gtr rfl rfl | exact q_add rfl rfl (by (exact wr_i64 (by omega))))) ?_) | (refine i_blt ?_; refine l_q rfl rfl rfl (by (exact q_len tab rfl rfl)) ?_) | (refine i_ix ?_; refine l_q rfl rfl rfl (by (exact q_indexAddr tab rfl rfl rfl rfl (by omega))) ?_) | (refine i_alloc ?_; (refine l_allocA tab rfl rfl (fun _ => ?_))) | (refine l_q rfl rfl rfl (by (first | (apply iq_fld; (exact q_fieldAddr tab rfl rfl rfl rfl rfl rfl rfl)) | (apply iq_cv; (exact q_conv tab rfl rfl rfl (by (exact wr_i64 (by omega))))))) ?_))) | refine d_seq ?_ | refine c_region ?_ | refine l_nil ?_ | refine c_block ?_ | (refine i_q ?_; (refine d_then ?_)) | refine c_skip ?_ | (refine i_store ?_; ((refine l_setN tab rfl rfl rfl rfl (List.cons_ne_nil _ _) rfl (by first | ((repeat (first | exact Upd.head | apply Upd.tail)); done) | fail) (by first | ((repeat (first | exact LSets.nil | exact LSet.zero | apply LSets.cons | apply LSet.succ)); done) | fail) ?_))) | (refine i_cond ?_; (first | refine c_ct rfl (by (exact decide_eq_true (by omega))) ?_ | refine c_cf rfl (by (exact decide_eq_false (by omega))) ?_))))
                (refine l_call0 rfl rfl Try.func9 rfl (by decide) (fun w' h => read_spec (Ro.empty (h.mem (X := memA p2 mw) (by first | ((repeat (first | exact List.Mem.head _ | apply List.Mem.tail)); done) | fail))) hk2 1 e.area e.at_ e.size (by omega) s2 ⟨by omega, by omega⟩ (by omega) (by omega)) (fun v B hv => ?_); obtain ⟨Ar, cr, rfl, rfl⟩ := hv)
                generalize hR : readM mw.abs 1 e.area e.at_ e.size = R at hrd ⊢
                by_cases hz : R.2 = 0
                · have hoe := hrd.1 hz
                  (repeat (first | (refine i_dst ?_; (first | (refine i_move ?_; refine l_q rfl rfl rfl (q_move rfl) ?_) | (refine i_assign ?_; refine l_q rfl rfl rfl (q_assign rfl) ?_) | (refine i_load ?_; refine l_q rfl rfl rfl (by ((exact q_ld1 tab rfl rfl rfl (by first | ((repeat (first | exact List.Mem.head _ | apply List.Mem.tail)); done) | fail) (by (rfl))))) ?_) | (refine i_bin ?_; refine l_q rfl rfl rfl (by (first | exact q_neq rfl rfl | exact q_add rfl rfl (by (exact wr_i64 (by omega))))) ?_) | (refine l_q rfl rfl rfl (by (first | exact q_extract rfl rfl | (apply iq_fld; (exact q_fieldAddr tab rfl rfl rfl rfl rfl rfl rfl)) | (apply iq_cv; (exact q_conv tab rfl rfl rfl (by (exact wr_i64 (by omega))))))) ?_))) | refine d_seq ?_ | refine c_region ?_ | refine l_nil ?_ | (refine i_q ?_; (first | refine d_then ?_ | refine t_then ?_ | refine t_block ?_)) | refine c_skip ?_ | (refine i_cond ?_; (refine c_cf rfl (by (exact decide_eq_false (by omega))) ?_))))
                  refine k_again (j + 1) (by omega) (by omega) ?_ (fun w h => h.psub (by first | ((repeat (first | exact PSub.nil | exact Ext.head | apply Ext.tail | apply PSub.cons)); done) | fail))
                  rw [hnx, hoe, Bool.and_true, hst1]
                  exact (by first | ((repeat (first | exact trivial | exact rfl | apply Sub.cons | exact look_int rfl (by omega) | exact look_int rfl (by simp) | exact look_int rfl (by simp; omega))); done) | fail)
                · have hoe : okE e = false := by
                    cases hq : okE e with
                    | false => rfl
                    | true => exact absurd (hrd.2 hq) hz
                  (repeat (first | (refine i_dst ?_; (first | (refine i_move ?_; refine l_q rfl rfl rfl (q_move rfl) ?_) | (refine i_assign ?_; refine l_q rfl rfl rfl (q_assign rfl) ?_) | (refine i_load ?_; refine l_q rfl rfl rfl (by ((exact q_ld1 tab rfl rfl rfl (by first | ((repeat (first | exact List.Mem.head _ | apply List.Mem.tail)); done) | fail) (by (rfl))))) ?_) | (refine i_bin ?_; refine l_q rfl rfl rfl (by (first | exact q_neq rfl rfl | exact q_add rfl rfl (by (exact wr_i64 (by omega))))) ?_) | (refine l_q rfl rfl rfl (by (first | exact q_extract rfl rfl | (apply iq_fld; (exact q_fieldAddr tab rfl rfl rfl rfl rfl rfl rfl)) | (apply iq_cv; (exact q_conv tab rfl rfl rfl (by (exact wr_i64 (by omega))))))) ?_))) | refine d_seq ?_ | refine c_region ?_ | refine l_nil ?_ | (refine i_q ?_; (first | refine d_then ?_ | refine t_then ?_ | refine t_block ?_)) | (refine i_cond ?_; (refine c_ct rfl (by (exact decide_eq_true (by omega))) ?_))))
                  refine k_again (j + 1) (by omega) (by omega) ?_ (fun w h => h.psub (by first | ((repeat (first | exact PSub.nil | exact Ext.head | apply Ext.tail | apply PSub.cons)); done) | fail))
                  rw [hnx, hoe, Bool.and_false, Bool.false_and, hst1]
                  exact (by first | ((repeat (first | exact trivial | exact rfl | apply Sub.cons | exact look_int rfl (by omega) | exact look_int rfl (by simp) | exact look_int rfl (by simp; omega))); done) | fail)
              · have hjn : j = t.length := by omega
                subst hjn
                rw [List.take_length]
                have hG : (t.all okE && ((l.tabs.take k).all okT && all)) = ((l.tabs.take (k + 1)).all okT && all) := by
                  rw [List.take_add_one, ht, List.all_append]
                  simp only [Option.toList_some, List.all_cons, List.all_nil, Bool.and_true, okT]
                  cases t.all okE <;> cases (l.tabs.take k).all okT <;> rfl
                rw [hG]
                (repeat (first | (refine i_dst ?_; (first | (refine i_move ?_; refine l_q rfl rfl rfl (q_move rfl) ?_) | (refine i_bin ?_; refine l_q rfl rfl rfl (by (first | exact q_lss rfl rfl | exact q_add rfl rfl (by (exact wr_i64 (by omega))))) ?_))) | refine d_seq ?_ | refine c_region ?_ | refine l_nil ?_ | (refine i_q ?_; (first | refine d_then ?_ | refine t_then ?_ | refine d_then_exit ?_ | refine t_then_exit ?_ | refine t_block ?_ | refine t_block_eq rfl ?_)) | refine c_exit ?_ | (refine i_cond ?_; ((refine c_cf rfl (by (((first | (simp; done) | fail)))) ?_)))))
                exact k_again (k + 1, x'') ⟨by dsimp only; omega, hX2⟩ (by dsimp only; omega) (by first | ((repeat (first | exact trivial | exact rfl | apply Sub.cons | exact look_int rfl (by omega) | exact look_int rfl (by simp) | exact look_int rfl (by simp; omega))); done) | fail) (fun w h => h.psub (by first | ((repeat (first | exact PSub.nil | exact Ext.head | apply Ext.tail | apply PSub.cons)); done) | fail))
        · have hkn : k = l.tabs.length := by omega
          subst hkn
          rw [List.take_length]
          (repeat (first | (refine i_dst ?_; (first | (refine i_move ?_; refine l_q rfl rfl rfl (q_move rfl) ?_) | (refine i_load ?_; refine l_q rfl rfl rfl (by ((exact q_ldN tab rfl rfl rfl rfl (by first | ((repeat (first | exact List.Mem.head _ | apply List.Mem.tail)); done) | fail) (by first | ((repeat (first | exact TakeR.nil | apply TakeR.cons | apply CutR.zero | apply CutR.skip)); done) | fail)))) ?_) | (refine i_bin ?_; refine l_q rfl rfl rfl (by (exact q_lss rfl rfl)) ?_))) | refine d_seq ?_ | refine c_region ?_ | refine l_nil ?_ | (refine i_q ?_; (first | refine d_then ?_ | refine d_then_exit ?_ | refine t_then_exit ?_ | refine t_block_eq rfl ?_)) | refine c_exit ?_ | (refine i_cond ?_; ((refine c_cf rfl (by (((first | (simp; done) | fail)))) ?_)))))
          have hsm := hLsm l (List.mem_of_getElem? hl)
          have hmeq := heq
          obtain ⟨X3, M3, happ, hnil3, hsh3, hwr⟩ := apply_laid hlaid hl hsh bs0 f all hX (by rw [absS, List.length_map]; omega) hnil
          (refine l_call2 (X := stimA sT q x') (Y := memA p m) (by first | ((repeat (first | exact Ext.head | apply Ext.tail)); done) | fail) (by first | ((repeat (first | exact Ext.head | apply Ext.tail)); done) | fail) rfl rfl Try.func10 rfl (by decide) (fun w' h => sapply_spec h.split hsh.ok i [.int .i64 f, .slice At l.tabs.length ct, .bool l.stim, .int .u8 l.ev, .int .u8 l.pre, .int .u8 l.pri, .bool l.on, .bool l.ch] l (hL.to (fun r hr => h.roOf (A := [stimA sT q x', memA p m]) hr (fun X hX => by simp at hX; rcases hX with rfl | rfl <;> simp))) hsm) (fun v B hv => ?_); obtain ⟨x3, m3, rfl, rfl, hx3, hm3⟩ := hv)
          rw [happ] at hx3 hm3 ⊢
          dsimp only at hx3 hm3 ⊢
          have hGt : (l.tabs.all okT && all) = true → ∀ t ∈ l.tabs, okT t = true := fun h t ht => by
            simp only [Bool.and_eq_true, List.all_eq_true] at h
            exact h.1 t ht
          generalize (l.tabs.all okT && all) = G at hwr hGt ⊢
          have hGG : (!(G == G)) = false := by simp
          have hsh2 : Sh64 mw.abs := by rw [heq]; exact hsh
          (repeat (first | (refine i_dst ?_; (first | (refine i_move ?_; refine l_q rfl rfl rfl (q_move rfl) ?_) | (refine i_load ?_; refine l_q rfl rfl rfl (by ((exact q_ld1 tab rfl rfl rfl (by first | ((repeat (first | exact List.Mem.head _ | apply List.Mem.tail)); done) | fail) (by (rfl))))) ?_) | (refine i_bin ?_; refine l_q rfl rfl rfl (by (exact q_neb tab rfl rfl rfl)) ?_) | (refine i_blt ?_; refine l_q rfl rfl rfl (by (exact q_len tab rfl rfl)) ?_) | (refine l_q rfl rfl rfl (by ((apply iq_fld; (exact q_fieldAddr tab rfl rfl rfl rfl rfl rfl rfl)))) ?_))) | refine d_seq ?_ | refine c_region ?_ | refine l_nil ?_ | refine c_block ?_ | (refine i_q ?_; (refine d_then ?_)) | refine c_skip ?_ | (refine i_cond ?_; (refine c_cf rfl (by (assumption)) ?_))))
          refine d_loop (T := Nat × MemV) [1, 2, 7, 9, 11, 13, 15, 16, 81, 82, 83, 180, 181] (fun t => [(182, .int .i64 t.1)]) [stimA sT q x3, memA p m3, blk b15 [.int .i64 f, .slice At l.tabs.length ct, .bool l.stim, .int .u8 l.ev, .int .u8 l.pre, .int .u8 l.pri, .bool l.on, .bool l.ch] 27] (fun t => [memA p2 t.2]) (fun t => t.1 ≤ l.tabs.length ∧ Sh64 t.2.abs ∧ if G = true then ((l.tabs.zip (ownsT bs0 f l.tabs.length)).take t.1).foldlM stepT m.abs = some t.2.abs else t.2.abs = m.abs) (fun t => l.tabs.length - t.1) (0, mw) (by first | ((repeat (first | exact Pick.nil | exact rfl | apply Pick.cons)); done) | fail) ⟨Nat.zero_le _, hsh2, by rw [heq]; cases G <;> rfl⟩ (by first | ((repeat (first | exact trivial | exact rfl | apply Sub.cons | exact look_int rfl (by omega) | exact look_int rfl (by simp) | exact look_int rfl (by simp; omega))); done) | fail) (fun w h => h.psub (by first | ((repeat (first | exact PSub.nil | exact Ext.head | apply Ext.tail | apply PSub.cons)); done) | fail)) ?_
          rintro ⟨k, mk⟩ ⟨hk2, hshk, hfk⟩
          dsimp only at hk2 hshk hfk ⊢
          by_cases hklt2 : k < l.tabs.length
          · obtain ⟨t, ht⟩ : ∃ t, l.tabs[k]? = some t := ⟨_, List.getElem?_eq_getElem hklt2⟩
            obtain ⟨hte, ht7, htn⟩ := hlo.tab t (List.mem_of_getElem? ht)
            have hGe : G = true → ∀ e ∈ t, okE e = true := fun h e he => by
              have := hGt h t (List.mem_of_getElem? ht)
              simp only [okT, List.all_eq_true] at this
              exact this e he
            obtain ⟨bT, oT, r2, rfl, hrl2, hT, hcell2⟩ := htabs.get (by omega) ht
            obtain ⟨Ae, ne, ce, rfl, hE, he1, he2⟩ := hT
            have hel := hE.len
            have hc2 : ∀ hp w', St Sf w1 hp w' → w'.cell? ⟨bT, oT + (k : Int).toNat, none⟩ = some (.slice Ae ne ce) := fun hp w' h => by
              have := (hcell2 hp w' h) 0 _ rfl
              simpa using this
            subst hel
            (repeat (first | (refine i_dst ?_; (first | (refine i_move ?_; refine l_q rfl rfl rfl (q_move rfl) ?_) | (refine i_assign ?_; refine l_q rfl rfl rfl (q_assign rfl) ?_) | (refine i_load ?_; refine l_q rfl rfl rfl (by (exact q_ldc tab rfl rfl rfl (by assumption))) ?_) | (refine i_bin ?_; refine l_q rfl rfl rfl (by (exact q_lss rfl rfl)) ?_) | (refine i_ix ?_; refine l_q rfl rfl rfl (by (exact q_indexAddr1 tab rfl rfl rfl rfl (by omega))) ?_))) | refine d_seq ?_ | refine c_region ?_ | refine l_nil ?_ | refine c_block ?_ | (refine i_q ?_; (refine d_then ?_)) | refine c_skip ?_ | (refine i_cond ?_; (refine c_ct rfl (by (exact decide_eq_true (by omega))) ?_))))
            refine l_make (len := 7) (cap := 7) (l := [.int .u8 0, .int .u8 0, .int .u8 0, .int .u8 0, .int .u8 0, .int .u8 0, .int .u8 0]) (e := 5) rfl rfl rfl (fun w => by kernel_rfl) (fun gd => ?_)
            (repeat (first | (refine i_dst ?_; (first | (refine i_move ?_; refine l_q rfl rfl rfl (q_move rfl) ?_) | (refine i_assign ?_; refine l_q rfl rfl rfl (q_assign rfl) ?_) | (refine i_load ?_; refine l_q rfl rfl rfl (by ((exact q_ld1 tab rfl rfl rfl (by first | ((repeat (first | exact List.Mem.head _ | apply List.Mem.tail)); done) | fail) (by (rfl))))) ?_) | (refine i_bin ?_; refine l_q rfl rfl rfl (by (first | exact q_lss rfl rfl | exact q_add rfl rfl (by (exact wr_i64 (by omega))))) ?_) | (refine i_blt ?_; refine l_q rfl rfl rfl (by (exact q_len tab rfl rfl)) ?_) | (refine l_q rfl rfl rfl (by ((apply iq_fld; (exact q_fieldAddr tab rfl rfl rfl rfl rfl rfl rfl)))) ?_))) | refine d_seq ?_ | refine c_region ?_ | refine l_nil ?_ | (refine i_q ?_; (refine d_then ?_))))
            refine d_join (α := Unit) (fun _ => True) (fun _ => []) [1, 2, 7, 9, 11, 13, 15, 16, 25, 26, 27, 81, 82, 83, 180, 181, 182] (by first | ((repeat (first | exact Pick.nil | exact rfl | apply Pick.cons)); done) | fail) (fun _ => [bytesA (.slice (some ⟨gd, 0, none⟩) 7 7) (ownT bs0 (f + k)), memA p2 mk, stimA sT q x3, memA p m3, blk b15 [.int .i64 f, .slice (some ⟨bT, oT, none⟩) l.tabs.length ct, .bool l.stim, .int .u8 l.ev, .int .u8 l.pre, .int .u8 l.pri, .bool l.on, .bool l.ch] 27]) ?_ (fun Q' hj1 _ _ => ?_)
            rotate_left
            · by_cases hj : f + k < nb
              · obtain ⟨bb, hbb⟩ : ∃ bb, bs0[f + k]? = some bb := ⟨_, List.getElem?_eq_getElem (by omega)⟩
                have hown : ownT bs0 (f + k) = spl (List.replicate 7 0) 0 (bb.take (min bb.length 7)) := by rw [ownT, hbb]
                obtain ⟨bx, ox, r1, rfl, -, ⟨Ax, cx, rfl, hrx, hx1, hx2⟩, hcx⟩ := hbsr.get (by omega) hbb
                have hx0 : ∀ hp w', St Sf w1 hp w' → w'.cell? ⟨bx, ox + ((f : Int) + (k : Int)).toNat, none⟩ = some (.slice Ax bb.length cx) := fun hp w' h => by
                  have := (hcx hp w' h) 0 _ rfl
                  rw [show ((f : Int) + (k : Int)).toNat = f + k by omega]
                  simpa using this
                clear hcx
                (repeat (first | (refine i_dst ?_; (first | (refine i_move ?_; refine l_q rfl rfl rfl (q_move rfl) ?_) | (refine i_load ?_; refine l_q rfl rfl rfl (by (first | (exact q_ld1 tab rfl rfl rfl (by first | ((repeat (first | exact List.Mem.head _ | apply List.Mem.tail)); done) | fail) (by (rfl))) | exact q_ldc tab rfl rfl rfl (by assumption))) ?_) | (refine i_bin ?_; refine l_q rfl rfl rfl (by (exact q_add rfl rfl (by (exact wr_i64 (by omega))))) ?_) | (refine i_ix ?_; refine l_q rfl rfl rfl (by (exact q_indexAddr1 tab rfl rfl rfl rfl (by omega))) ?_) | (refine l_q rfl rfl rfl (by ((apply iq_fld; (exact q_fieldAddr tab rfl rfl rfl rfl rfl rfl rfl)))) ?_))) | refine c_region ?_ | (refine i_cond ?_; (refine c_ct rfl (by (exact decide_eq_true (by omega))) ?_))))
                by_cases hm0 : min bb.length 7 = 0
                · refine l_op rfl (fun K hK => e_copy0 tab rfl rfl rfl rfl rfl hm0 (hK _ _ ?_))
                  clear hK
                  (repeat (refine l_nil ?_))
                  exact hj1 () trivial _ _ (by first | ((repeat (first | exact trivial | exact rfl | apply Sub.cons | exact look_int rfl (by omega) | exact look_int rfl (by simp) | exact look_int rfl (by simp; omega))); done) | fail) (fun w h => own_st (hboct) (own_zero hown hm0) (h.psub (by first | ((repeat (first | exact PSub.nil | exact Ext.head | apply Ext.tail | apply PSub.cons)); done) | fail)))
                · refine l_op rfl (fun K hK => e_copy tab (i := 0) (news := bv bb) rfl rfl rfl rfl rfl rfl (by simp) (fun w h => roB_src (h.ro hrx)) (bv_one bb) (hK _ _ ?_))
                  clear hK
                  (repeat (refine l_nil ?_))
                  exact hj1 () trivial _ _ (by first | ((repeat (first | exact trivial | exact rfl | apply Sub.cons | exact look_int rfl (by omega) | exact look_int rfl (by simp) | exact look_int rfl (by simp; omega))); done) | fail) (fun w h => own_st hboct (own_copy hown) (h.psub (by first | ((repeat (first | exact PSub.nil | exact Ext.head | apply Ext.tail | apply PSub.cons)); done) | fail)))
              · (repeat (first | refine c_skip ?_ | (refine i_cond ?_; (refine c_cf rfl (by (exact decide_eq_false (by omega))) ?_))))
                exact hj1 () trivial _ _ (by first | ((repeat (first | exact trivial | exact rfl | apply Sub.cons | exact look_int rfl (by omega) | exact look_int rfl (by simp) | exact look_int rfl (by simp; omega))); done) | fail) (fun w h => own_st hboct (own_none (bs := bs0) (by omega)) (h.psub (by first | ((repeat (first | exact PSub.nil | exact Ext.head | apply Ext.tail | apply PSub.cons)); done) | fail)))
            · intro _ _
              have hownk := ownsT_get (bs := bs0) (f := f) hklt2
              generalize hown : ownT bs0 (f + k) = own at hownk
              have howl : own.length = 7 := by rw [← hown]; exact ownT_len _ _
              (repeat (first | (refine i_dst ?_; (first | (refine i_move ?_; refine l_q rfl rfl rfl (q_move rfl) ?_) | (refine i_blt ?_; refine l_q rfl rfl rfl (by (exact q_len tab rfl rfl)) ?_))) | refine d_seq ?_ | refine c_region ?_ | refine l_nil ?_ | refine c_block ?_ | (refine i_q ?_; (refine d_then ?_))))
              refine d_loop (T := Nat × MemV × Option Addr × Nat) [1, 2, 7, 9, 11, 13, 15, 16, 81, 82, 83, 180, 181, 182, 204, 205] (fun s => [(206, .int .i64 s.1), (27, .slice s.2.2.1 (7 - needsM (t.take s.1)) s.2.2.2)]) [stimA sT q x3, memA p m3, blk b15 [.int .i64 f, .slice (some ⟨bT, oT, none⟩) l.tabs.length ct, .bool l.stim, .int .u8 l.ev, .int .u8 l.pre, .int .u8 l.pri, .bool l.on, .bool l.ch] 27, bytesA (.slice (some ⟨gd, 0, none⟩) 7 7) own] (fun s => [memA p2 s.2.1]) (fun s => s.1 ≤ t.length ∧ Sh64 s.2.1.abs ∧ RoCut gd own s.2.2.1 s.2.2.2 (needsM (t.take s.1)) ∧ if G = true then (t.take s.1).foldlM stepE (mk.abs, own) = some (s.2.1.abs, own.drop (needsM (t.take s.1))) else s.2.1.abs = m.abs) (fun s => t.length - s.1) (0, mk, some ⟨gd, 0, none⟩, 7) (by first | ((repeat (first | exact Pick.nil | exact rfl | apply Pick.cons)); done) | fail) ⟨Nat.zero_le _, hshk, cut_zero gd own, by
                cases G with
                | true => rfl
                | false => exact hfk⟩ (by first | ((repeat (first | exact trivial | exact rfl | apply Sub.cons | exact look_int rfl (by omega) | exact look_int rfl (by simp) | exact look_int rfl (by simp; omega))); done) | fail) (fun w h => h.psub (by first | ((repeat (first | exact PSub.nil | exact Ext.head | apply Ext.tail | apply PSub.cons)); done) | fail)) ?_
              rintro ⟨j, mj, Bj, cj⟩ ⟨hj, hshj, hcut, hfj⟩
              dsimp only at hj hshj hcut hfj ⊢
              by_cases hjl : j < t.length
              · obtain ⟨e, he⟩ : ∃ e, t[j]? = some e := ⟨_, List.getElem?_eq_getElem hjl⟩
                obtain ⟨s1, s2, s3⟩ := hte e (List.mem_of_getElem? he)
                obtain ⟨bE, oE, r3, rfl, hrl3, ⟨rfl, -, -, -⟩, hcell3⟩ := hE.get (by omega) he
                have hst1 := needsM_take he
                have hle := needsM_le (t := t) (k := j + 1)
                obtain ⟨hcut1, hcut2, hcut3⟩ := id hcut
                obtain ⟨s, hs⟩ : ∃ s, s = needsM (t.take j) := ⟨_, rfl⟩
                rw [← hs] at hst1 hcut hcut1 hcut2 hfj ⊢
                obtain ⟨u, hu⟩ : ∃ u, u + s = 7 := ⟨7 - s, by omega⟩
                have hu2 : 7 - s = u := by omega
                have hu3 : 7 - (s + e.size) = u - e.size := by omega
                rw [hu2] at hcut1 hcut2 ⊢
                clear hu2 hrl hrl2 hrl3
                cases G with
                | true =>
                  have hoe := hGe rfl e (List.mem_of_getElem? he)
                  have hxl : ((own.drop s).take e.size).length = e.size := by rw [List.length_take, List.length_drop]; omega
                  obtain ⟨hw1, hw2⟩ := sh_write hshj hxl
                  (repeat (first | (refine i_dst ?_; (first | (refine i_move ?_; refine l_q rfl rfl rfl (q_move rfl) ?_) | (refine i_load ?_; refine l_q rfl rfl rfl (by (exact q_ldcN tab rfl rfl rfl rfl (by assumption) rfl)) ?_) | (refine i_bin ?_; refine l_q rfl rfl rfl (by (exact q_lss rfl rfl)) ?_) | (refine i_ix ?_; refine l_q rfl rfl rfl (by (exact q_indexAddr tab rfl rfl rfl rfl (by omega))) ?_) | (refine i_alloc ?_; (refine l_allocA tab rfl rfl (fun _ => ?_))))) | refine d_seq ?_ | refine c_region ?_ | refine l_nil ?_ | refine c_block ?_ | (refine i_q ?_; (refine d_then ?_)) | refine c_skip ?_ | (refine i_store ?_; ((refine l_setN tab rfl rfl rfl rfl (List.cons_ne_nil _ _) rfl (by first | ((repeat (first | exact Upd.head | apply Upd.tail)); done) | fail) (by first | ((repeat (first | exact LSets.nil | exact LSet.zero | apply LSets.cons | apply LSet.succ)); done) | fail) ?_))) | (refine i_cond ?_; (refine c_ct rfl (by (first | rfl | exact decide_eq_true (by omega))) ?_))))
                  rename_i b29
                  (refine a_begin mixed [blk b29 [.int .u8 e.size, .int .u8 e.area, .int .u32 e.at_] 44] 10 rfl (fun w h => h.subl (by first | ((repeat (first | exact SubL.nil | apply SubL.keep | apply SubL.skip)); done) | fail)) ?_)
                  ((refine a_q 0 rfl rfl rfl rfl rfl (by decide +kernel) (q_move rfl) ?_; refine a_q 1 rfl rfl rfl rfl rfl (by decide +kernel) (by ((apply iq_fld; (exact q_fieldAddr tab rfl rfl rfl rfl rfl rfl rfl)))) ?_; ((refine a_q 2 rfl rfl rfl rfl rfl (by decide +kernel) (by ((exact q_ld1 tab rfl rfl rfl (by first | ((repeat (first | exact List.Mem.head _ | apply List.Mem.tail)); done) | fail) (by (rfl))))) ?_)); refine a_q 3 rfl rfl rfl rfl rfl (by decide +kernel) (by ((apply iq_fld; (exact q_fieldAddr tab rfl rfl rfl rfl rfl rfl rfl)))) ?_; ((refine a_q 4 rfl rfl rfl rfl rfl (by decide +kernel) (by ((exact q_ld1 tab rfl rfl rfl (by first | ((repeat (first | exact List.Mem.head _ | apply List.Mem.tail)); done) | fail) (by (rfl))))) ?_)); refine a_q 5 rfl rfl rfl rfl rfl (by decide +kernel) (q_move rfl) ?_; refine a_q 6 rfl rfl rfl rfl rfl (by decide +kernel) (by ((apply iq_fld; (exact q_fieldAddr tab rfl rfl rfl rfl rfl rfl rfl)))) ?_; ((refine a_q 7 rfl rfl rfl rfl rfl (by decide +kernel) (by ((exact q_ld1 tab rfl rfl rfl (by first | ((repeat (first | exact List.Mem.head _ | apply List.Mem.tail)); done) | fail) (by (rfl))))) ?_)); refine a_q 8 rfl rfl rfl rfl rfl (by decide +kernel) (by (exact q_slHi tab rfl rfl rfl rfl (by first | (with_reducible exact Int.toNat_natCast _) | (with_reducible exact Int.toNat_zero) | (with_reducible exact Int.toNat_one) | rfl) (by (omega)))) ?_))
                  (refine a_e 9 rfl (by decide +kernel) rfl (fun K hK => e_call1 (X := memA p2 mj) (by first | ((repeat (first | exact Ext.head | apply Ext.tail)); done) | fail) rfl rfl Try.func11 rfl (by decide) (fun w' h => write_spec h.split hshj.ok 1 e.area e.at_ Bj e.size cj ((own.drop s).take e.size) ((hcut1 _ _ (Ro.bytes (h.roHp (A := [memA p2 mj]) (Y := bytesA (.slice (some ⟨gd, 0, none⟩) 7 7) own) (by first | ((repeat (first | exact List.Mem.head _ | apply List.Mem.tail)); done) | fail)))).take (k := e.size) (by omega)) (by omega) (by omega) s2 (by omega) (by omega)) (fun v B hv => ?_)); obtain ⟨m4, rfl, hm4, rfl⟩ := hv; refine hK _ _ (fun w h => h.subl (by first | ((repeat (first | exact SubL.nil | apply SubL.keep | apply SubL.skip)); done) | fail)) ?_; clear hK)
                  refine a_done (by decide +kernel) ?_
                  have hse : stepE (mj.abs, own.drop s) e = some (m4.abs, own.drop (s + e.size)) := by
                    rw [stepE]
                    dsimp only
                    rw [if_pos (hw1.2 hoe), ← hm4, List.drop_drop]
                  have hsh4 : Sh64 m4.abs := by rw [hm4]; exact hw2 hoe
                  have hfj2 : (t.take (j + 1)).foldlM stepE (mk.abs, own) = some (m4.abs, own.drop (needsM (t.take (j + 1)))) := by
                    rw [if_pos rfl] at hfj
                    rw [foldlM_take he hfj, hse, hst1]
                  clear hw1 hw2 hm4 hwr hGt hGG hfk hGe hfj hse hoe hxl hcut1
                  generalize (writeM mj.abs 1 e.area e.at_ ((own.drop s).take e.size)).2 = wq
                  (repeat (first | (refine i_dst ?_; (first | (refine i_move ?_; refine l_q rfl rfl rfl (q_move rfl) ?_) | (refine i_load ?_; refine l_q rfl rfl rfl (by ((exact q_ld1 tab rfl rfl rfl (by first | ((repeat (first | exact List.Mem.head _ | apply List.Mem.tail)); done) | fail) (by (rfl))))) ?_) | (refine l_q rfl rfl rfl (by ((apply iq_fld; (exact q_fieldAddr tab rfl rfl rfl rfl rfl rfl rfl)))) ?_))) | refine c_region ?_ | (refine i_q ?_; (refine d_then ?_))))
                  refine i_dst (l_q rfl rfl rfl (q_slLo tab rfl rfl rfl rfl (by exact Int.toNat_natCast _) (by omega)) ?_)
                  (repeat (first | (refine i_dst ?_; (first | (refine i_move ?_; refine l_q rfl rfl rfl (q_move rfl) ?_) | (refine i_assign ?_; refine l_q rfl rfl rfl (q_assign rfl) ?_) | (refine i_bin ?_; refine l_q rfl rfl rfl (by (exact q_add rfl rfl (by (exact wr_i64 (by omega))))) ?_))) | refine c_region ?_ | refine l_nil ?_ | (refine i_q ?_; (first | refine d_then ?_ | refine t_then ?_ | refine t_block ?_))))
                  refine k_again (j + 1, m4, cutA Bj cj e.size 1, cj - e.size) ⟨by dsimp only; omega, hsh4, ?_, ?_⟩ (by dsimp only; omega) ?_ (fun w h => h.psub (by first | ((repeat (first | exact PSub.nil | exact Ext.head | apply Ext.tail | apply PSub.cons)); done) | fail))
                  · dsimp only
                    rw [hst1]
                    exact cut_more hcut howl (by omega)
                  · dsimp only
                    rw [if_pos rfl]
                    exact hfj2
                  · dsimp only
                    rw [hst1, hu3]
                    exact (by first | ((repeat (first | exact trivial | exact rfl | apply Sub.cons | exact look_int rfl (by omega) | exact look_int rfl (by simp) | exact look_int rfl (by simp; omega))); done) | fail)
                | false =>
                  clear hwr hGt hGG hfk hGe hcut1
                  (repeat (first | (refine i_dst ?_; (first | (refine i_move ?_; refine l_q rfl rfl rfl (q_move rfl) ?_) | (refine i_load ?_; refine l_q rfl rfl rfl (by (first | (exact q_ld1 tab rfl rfl rfl (by first | ((repeat (first | exact List.Mem.head _ | apply List.Mem.tail)); done) | fail) (by (rfl))) | exact q_ldcN tab rfl rfl rfl rfl (by assumption) rfl)) ?_) | (refine i_bin ?_; refine l_q rfl rfl rfl (by (exact q_lss rfl rfl)) ?_) | (refine i_ix ?_; refine l_q rfl rfl rfl (by (exact q_indexAddr tab rfl rfl rfl rfl (by omega))) ?_) | (refine i_alloc ?_; (refine l_allocA tab rfl rfl (fun _ => ?_))) | (refine l_q rfl rfl rfl (by ((apply iq_fld; (exact q_fieldAddr tab rfl rfl rfl rfl rfl rfl rfl)))) ?_))) | refine d_seq ?_ | refine c_region ?_ | refine l_nil ?_ | refine c_block ?_ | (refine i_q ?_; (refine d_then ?_)) | refine c_skip ?_ | (refine i_store ?_; ((refine l_setN tab rfl rfl rfl rfl (List.cons_ne_nil _ _) rfl (by first | ((repeat (first | exact Upd.head | apply Upd.tail)); done) | fail) (by first | ((repeat (first | exact LSets.nil | exact LSet.zero | apply LSets.cons | apply LSet.succ)); done) | fail) ?_))) | (refine i_cond ?_; (first | refine c_ct rfl (by (exact decide_eq_true (by omega))) ?_ | refine c_cf rfl (by (rfl)) ?_))))
                  refine i_dst (l_q rfl rfl rfl (q_slLo tab rfl rfl rfl rfl (by exact Int.toNat_natCast _) (by omega)) ?_)
                  (repeat (first | (refine i_dst ?_; (first | (refine i_move ?_; refine l_q rfl rfl rfl (q_move rfl) ?_) | (refine i_assign ?_; refine l_q rfl rfl rfl (q_assign rfl) ?_) | (refine i_bin ?_; refine l_q rfl rfl rfl (by (exact q_add rfl rfl (by (exact wr_i64 (by omega))))) ?_))) | refine c_region ?_ | refine l_nil ?_ | (refine i_q ?_; (first | refine d_then ?_ | refine t_then ?_ | refine t_block ?_))))
                  refine k_again (j + 1, mj, cutA Bj cj e.size 1, cj - e.size) ⟨by dsimp only; omega, hshj, ?_, hfj⟩ (by dsimp only; omega) ?_ (fun w h => h.psub (by first | ((repeat (first | exact PSub.nil | exact Ext.head | apply Ext.tail | apply PSub.cons)); done) | fail))
                  · dsimp only
                    rw [hst1]
                    exact cut_more hcut howl (by omega)
                  · dsimp only
                    rw [hst1, hu3]
                    exact (by first | ((repeat (first | exact trivial | exact rfl | apply Sub.cons | exact look_int rfl (by omega) | exact look_int rfl (by simp) | exact look_int rfl (by simp; omega))); done) | fail)
              · have hjn : j = t.length := by omega
                subst hjn
                rw [List.take_length] at hfj
                (repeat (first | (refine i_dst ?_; (first | (refine i_move ?_; refine l_q rfl rfl rfl (q_move rfl) ?_) | (refine i_bin ?_; refine l_q rfl rfl rfl (by (first | exact q_lss rfl rfl | exact q_add rfl rfl (by (exact wr_i64 (by omega))))) ?_))) | refine d_seq ?_ | refine c_region ?_ | refine l_nil ?_ | (refine i_q ?_; (first | refine d_then ?_ | refine t_then ?_ | refine d_then_exit ?_ | refine t_then_exit ?_ | refine t_block ?_ | refine t_block_eq rfl ?_)) | refine c_exit ?_ | (refine i_cond ?_; ((refine c_cf rfl (by (((first | (simp; done) | fail)))) ?_)))))
                refine k_again (k + 1, mj) ⟨by dsimp only; omega, hshj, ?_⟩ (by dsimp only; omega) (by first | ((repeat (first | exact trivial | exact rfl | apply Sub.cons | exact look_int rfl (by omega) | exact look_int rfl (by simp) | exact look_int rfl (by simp; omega))); done) | fail) (fun w h => h.psub (by first | ((repeat (first | exact PSub.nil | exact Ext.head | apply Ext.tail | apply PSub.cons)); done) | fail))
                dsimp only
                cases G with
                | true =>
                  rw [if_pos rfl] at hfj hfk ⊢
                  rw [foldlM_take (zip_get ht hownk) hfk, stepT]
                  dsimp only
                  rw [if_neg (by omega), hfj]
                  rfl
                | false => exact hfj
          · have hkn : k = l.tabs.length := by omega
            subst hkn
            have hzl : (l.tabs.zip (ownsT bs0 f l.tabs.length)).take l.tabs.length = l.tabs.zip (ownsT bs0 f l.tabs.length) := List.take_of_length_le (by rw [List.length_zip]; omega)
            rw [hzl] at hfk
            have hfin : mk.abs = m3.abs := by
              rw [hm3]
              cases G with
              | true =>
                rw [if_pos rfl] at hfk hwr
                have h9 : writesM m.abs l.tabs (ownsT bs0 f l.tabs.length) = some mk.abs := hfk
                rw [h9] at hwr
                injection hwr
              | false =>
                rw [if_neg (by simp)] at hfk hwr
                rw [hfk, hwr]
            (repeat (first | (refine i_dst ?_; (first | (refine i_move ?_; refine l_q rfl rfl rfl (q_move rfl) ?_) | (refine i_bin ?_; refine l_q rfl rfl rfl (by (first | exact q_lss rfl rfl | exact q_add rfl rfl (by (exact wr_i64 (by omega))))) ?_))) | refine d_seq ?_ | refine c_region ?_ | refine l_nil ?_ | (refine i_q ?_; (first | refine d_then ?_ | refine t_then ?_ | refine d_then_exit ?_ | refine t_then_exit ?_ | refine t_block ?_ | refine t_block_eq rfl ?_)) | refine c_exit ?_ | (refine i_cond ?_; ((refine c_cf rfl (by (((first | (simp; done) | fail)))) ?_)))))
            exact k_again (i + 1, m3, mk, x3) ⟨by dsimp only; omega, by rw [hm3]; exact hsh3, hfin, by rw [hx3]; exact hnil3⟩ (by dsimp only; omega) (by first | ((repeat (first | exact trivial | exact rfl | apply Sub.cons | exact look_int rfl (by omega) | exact look_int rfl (by simp) | exact look_int rfl (by simp; omega))); done) | fail) (fun w h => h.psub (by first | ((repeat (first | exact PSub.nil | exact Ext.head | apply Ext.tail | apply PSub.cons)); done) | fail))
    · obtain rfl : i = ny := by omega
      have hr0 : (readM m.abs 1 0 0 64).2 = 0 := (sh_read hsh ⟨64, 0, 0⟩).2 (by decide)
      obtain ⟨bs, hbs2⟩ : ∃ bs, readM m.abs 1 0 0 64 = (bs, 0) := ⟨_, Prod.ext rfl hr0⟩
      have hst : ((strOfNums bs).toList == (strOfNums bs).toList) = true := by simp
      have hsh2 : Sh64 mw.abs := by rw [heq]; exact hsh
      clear hr0 hnil
      (repeat (first | (refine i_dst ?_; (first | (refine i_move ?_; refine l_q rfl rfl rfl (q_move rfl) ?_) | (refine i_bin ?_; refine l_q rfl rfl rfl (by (exact q_lss rfl rfl)) ?_))) | refine d_seq ?_ | refine c_region ?_ | refine l_nil ?_ | (refine i_q ?_; (first | refine d_then ?_ | refine d_then_exit ?_ | refine t_then_exit ?_ | refine t_block_eq rfl ?_)) | refine c_exit ?_ | (refine i_cond ?_; ((refine c_cf rfl (by (((first | (simp; done) | fail)))) ?_)))))
      (refine l_call0 rfl rfl Try.func9 rfl (by decide) (fun w' h => by have hq := read_spec (Ro.empty (h.mem (X := memA p m) (by first | ((repeat (first | exact List.Mem.head _ | apply List.Mem.tail)); done) | fail))) hsh.ok 1 0 0 64 (by omega) (by omega) ⟨by omega, by omega⟩ (by omega) (by omega); rw [hbs2] at hq; exact hq) (fun v B hv => ?_); obtain ⟨Ar, cr, rfl, rfl⟩ := hv)
      (repeat (first | (refine i_dst ?_; (first | (refine i_move ?_; refine l_q rfl rfl rfl (q_move rfl) ?_) | (refine i_assign ?_; refine l_q rfl rfl rfl (q_assign rfl) ?_) | refine l_q rfl rfl rfl (by (exact q_extract rfl rfl)) ?_)) | refine d_seq ?_ | refine c_region ?_ | refine l_nil ?_ | (refine i_q ?_; (refine d_then ?_))))
      (refine l_call0 rfl rfl Try.func9 rfl (by decide) (fun w' h => by have hq := read_spec (Ro.empty (h.mem (X := memA p2 mw) (by first | ((repeat (first | exact List.Mem.head _ | apply List.Mem.tail)); done) | fail))) hsh2.ok 1 0 0 64 (by omega) (by omega) ⟨by omega, by omega⟩ (by omega) (by omega); rw [heq, hbs2] at hq; exact hq) (fun v B hv => ?_); obtain ⟨Ar2, cr2, rfl, rfl⟩ := hv)
      (repeat (first | (refine i_dst ?_; (first | (refine i_move ?_; refine l_q rfl rfl rfl (q_move rfl) ?_) | (refine i_assign ?_; refine l_q rfl rfl rfl (q_assign rfl) ?_) | refine l_q rfl rfl rfl (by (exact q_extract rfl rfl)) ?_)) | refine d_seq ?_ | refine c_region ?_ | refine l_nil ?_ | (refine i_q ?_; (refine d_then ?_))))
      (refine l_call0 rfl rfl Try.func12 rfl (by decide) (fun w' h => worksT_spec w') (fun v B hv => ?_); obtain ⟨rfl, rfl⟩ := hv)
      (repeat (first | (refine i_dst ?_; (first | (refine i_move ?_; refine l_q rfl rfl rfl (q_move rfl) ?_) | (refine i_assign ?_; refine l_q rfl rfl rfl (q_assign rfl) ?_) | (refine i_bin ?_; refine l_q rfl rfl rfl (by (first | exact q_eql rfl rfl | exact q_eqs rfl rfl)) ?_) | (refine l_q rfl rfl rfl (by (first | (apply iq_cv; ((exact q_str tab rfl rfl rfl rfl (fun w h => roB_of (h.mem (by first | ((repeat (first | exact List.Mem.head _ | apply List.Mem.tail)); done) | fail)))))) | exact q_pick_t rfl rfl)) ?_))) | refine l_nil ?_ | (refine i_q ?_; (refine d_then ?_)) | refine c_ret ?_ | (refine i_guard ?_; (refine l_gt rfl rfl rfl ?_))))
      exact t_ret1R hend Try.results3 rfl (fun _ => congrArg Value.bool hst)
end Go.Proofs.Ytboccjdncdaakaa

/-
  Part 12 of the proof of QJ: the texts F8 SLm F4 F5.
-/
import Derived.Test.YtboccjdncdaakaaK11
import Derived.Test.YtboccjdncdaakaaK09
import Derived.Test.YtboccjdncdaakaaK10

/-
  Layer 11: Lists, walked.
-/

set_option linter.unusedVariables false
set_option maxRecDepth 100000
namespace Go.Proofs.Ytboccjdncdaakaa
open Go.RowKit
attribute [local irreducible] TL TC TQ TK TO Qt TA
attribute [local irreducible] blk row bytesA starL memA segA roB otA entA
set_option maxHeartbeats 8000000 in
theorem dlists_spec {p : Nat} {A : Option Addr} {n c : Nat} {v0 v1 v3 : Value} {ls : List ListI} {w : World} (hb : Ro (fps []) w (blk p [v0, v1, .slice A n c, v3] 98)) (hls : InS (fps []) w 8 (InList (fps []) w) A n ls) (hn4 : n ≤ 4) (hok : ∀ l ∈ ls, LOk l) :
    Calls Try.prog 16 #[.pointer (some ⟨p, 0, none⟩)] w (Ret w [] (ListsOut ls)) := by
  have hlen := hls.len
  have hmx : maxLen = 2 ^ 63 - 1 := rfl
  refine enter (vs := [.pointer (some ⟨p, 0, none⟩)]) Try.func16 rfl Try.ntmps16 rfl (Hold.nil w) ?_
  (repeat (first | (refine i_dst ?_; (first | (refine i_move ?_; refine l_q rfl rfl rfl (q_move rfl) ?_) | (refine i_assign ?_; refine l_q rfl rfl rfl (q_assign rfl) ?_) | (refine i_load ?_; refine l_q rfl rfl rfl (by (exact q_ldRo tab rfl rfl rfl (by assumption) rfl)) ?_) | (refine i_bin ?_; refine l_q rfl rfl rfl (by (exact q_eqnil tab rfl rfl rfl)) ?_) | (refine i_blt ?_; refine l_q rfl rfl rfl (by (exact q_len tab rfl rfl)) ?_) | (refine l_q rfl rfl rfl (by (first | (apply iq_fld; (exact q_fieldAddr tab rfl rfl rfl rfl rfl rfl rfl)) | (apply iq_nck; (exact q_nilck rfl)))) ?_))) | refine d_seq ?_ | refine c_region ?_ | refine l_nil ?_ | refine c_block ?_ | (refine i_q ?_; (refine d_then ?_)) | refine c_skip ?_ | (refine i_cond ?_; (refine c_cf rfl (by (rfl)) ?_))))
  refine d_loop (T := List LstV × Value) [15, 16] (fun t => [(3, t.2), (4, .int .i64 (totT (ls.take t.1.length) : Nat)), (17, .int .i64 t.1.length)]) [] (fun t => [row 27 8 t.2 t.1.length (t.1.flatMap lstCells), starL (t.1.map tblA)]) (fun t => t.1.length ≤ n ∧ t.1.map (·.l) = firstsL 0 (ls.take t.1.length)) (fun t => n - t.1.length) ([], .slice none 0 0) (by first | ((repeat (first | exact Pick.nil | exact rfl | apply Pick.cons)); done) | fail) ⟨Nat.zero_le _, rfl⟩ (by first | ((repeat (first | exact trivial | exact rfl | apply Sub.cons | exact look_int rfl (by omega) | exact look_int rfl (by simp) | exact look_int rfl (by simp; omega))); done) | fail) (fun w h => st_nil (st_star0 h) _ 8) ?_
  rintro ⟨ys, ov⟩ ⟨hy1, hy2⟩
  dsimp only at hy1 hy2 ⊢
  refine c_fact (p := ∃ Ao co, ov = .slice Ao ys.length co ∧ ys.length ≤ co ∧ co ≤ maxLen ∧ (0 < ys.length → ∃ g, Ao = some ⟨g, 0, none⟩)) (fun w h => ?_) ?_
  · obtain ⟨Ao, co, e1, e2, e3, e4⟩ := row_slice (h.get (i := 0) rfl)
    exact ⟨Ao, co, e1, e2, e3, fun h0 => by obtain ⟨g, hg, _⟩ := e4 h0; exact ⟨g, hg⟩⟩
  rintro ⟨Ao, co, rfl, ho1, ho2, hAo⟩
  by_cases hlt : ys.length < n
  · clear hAo
    obtain ⟨l, hl⟩ : ∃ l, ls[ys.length]? = some l := ⟨_, List.getElem?_eq_getElem (by omega)⟩
    have hlo := hok l (List.mem_of_getElem? hl)
    have htake : ls.take (ys.length + 1) = ls.take ys.length ++ [l] := by rw [List.take_add_one, hl]; rfl
    have htot := totT_le (ls := ls.take ys.length) (fun l hl => (hok l (List.mem_of_mem_take hl)).tabs)
    have hto2 : totT (ls.take (ys.length + 1)) = totT (ls.take ys.length) + l.tabs.length := by rw [htake, totT_snoc]
    rw [List.length_take] at htot
    generalize hs : totT (ls.take ys.length) = s at htot hto2 ⊢
    obtain ⟨b, o, r, rfl, hrl, hL, hcell⟩ := hls.get (by omega) hl
    obtain ⟨⟨At, nt, ct, rfl, htab, ht1, ht2⟩, hl1, hl2, hl3, hl4⟩ := hL
    have htl := htab.len
    have h16 := hlo.tabs
    (repeat (first | (refine i_dst ?_; (first | (refine i_move ?_; refine l_q rfl rfl rfl (q_move rfl) ?_) | (refine i_assign ?_; refine l_q rfl rfl rfl (q_assign rfl) ?_) | (refine i_load ?_; refine l_q rfl rfl rfl (by (first | (exact q_ld1 tab rfl rfl rfl (by first | ((repeat (first | exact List.Mem.head _ | apply List.Mem.tail)); done) | fail) (by (rfl))) | exact q_ldcN tab rfl rfl rfl rfl (by assumption) rfl)) ?_) | (refine i_bin ?_; refine l_q rfl rfl rfl (by (exact q_lss rfl rfl)) ?_) | (refine i_blt ?_; refine l_q rfl rfl rfl (by (exact q_len tab rfl rfl)) ?_) | (refine i_ix ?_; refine l_q rfl rfl rfl (by (exact q_indexAddr tab rfl rfl rfl rfl (by omega))) ?_) | (refine i_alloc ?_; (refine l_allocA tab rfl rfl (fun _ => ?_))) | (refine l_q rfl rfl rfl (by ((apply iq_fld; (exact q_fieldAddr tab rfl rfl rfl rfl rfl rfl rfl)))) ?_))) | refine d_seq ?_ | refine c_region ?_ | refine l_nil ?_ | refine c_block ?_ | (refine i_q ?_; (refine d_then ?_)) | refine c_skip ?_ | (refine i_store ?_; ((refine l_setN tab rfl rfl rfl rfl (List.cons_ne_nil _ _) rfl (by first | ((repeat (first | exact Upd.head | apply Upd.tail)); done) | fail) (by first | ((repeat (first | exact LSets.nil | exact LSet.zero | apply LSets.cons | apply LSet.succ)); done) | fail) ?_))) | (refine i_cond ?_; (refine c_ct rfl (by (exact decide_eq_true (by omega))) ?_))))
    rename_i b6
    refine d_loop (T := Value × List Value) [3, 4, 6, 15, 16, 17, 22, 23] (fun t => [(7, t.1), (24, .int .i64 t.2.length)]) [blk b6 [.int .i64 l.first, .slice At nt ct, .bool l.stim, .int .u8 l.ev, .int .u8 l.pre, .int .u8 l.pri, .bool l.on, .bool l.ch] 27, row 27 8 (.slice Ao ys.length co) ys.length (ys.flatMap lstCells), starL (ys.map tblA)]
      (fun t => [otA ⟨t.1, t.2, l.tabs.take t.2.length⟩]) (fun t => t.2.length ≤ nt) (fun t => nt - t.2.length) (.slice none 0 0, []) (by first | ((repeat (first | exact Pick.nil | exact rfl | apply Pick.cons)); done) | fail) (Nat.zero_le _) (by first | ((repeat (first | exact trivial | exact rfl | apply Sub.cons | exact look_int rfl (by omega) | exact look_int rfl (by simp) | exact look_int rfl (by simp; omega))); done) | fail) (fun w h => ot_nil h) ?_
    rintro ⟨tv, tvs⟩ hj1
    dsimp only at hj1 ⊢
    refine c_hp (fun w h => ot_open h) ?_
    dsimp only
    refine c_fact (p := ∃ Aq cq, tv = .slice Aq tvs.length cq ∧ tvs.length ≤ cq ∧ cq ≤ maxLen) (fun w h => ?_) ?_
    · obtain ⟨Aq, cq, e1, e2, e3, -⟩ := row_slice (h.get (i := 0) rfl)
      exact ⟨Aq, cq, e1, e2, e3⟩
    rintro ⟨Aq, cq, rfl, hq1, hq2⟩
    by_cases hjl : tvs.length < nt
    · obtain ⟨t, ht⟩ : ∃ t, l.tabs[tvs.length]? = some t := ⟨_, List.getElem?_eq_getElem (by omega)⟩
      obtain ⟨-, ht7, -⟩ := hlo.tab t (List.mem_of_getElem? ht)
      obtain ⟨bT, oT, r2, rfl, hrl2, hT, hcell2⟩ := htab.get (by omega) ht
      obtain ⟨Ae, ne, ce, rfl, hE, he1, he2⟩ := hT
      have hel := hE.len
      have hc2 : ∀ hp w', St (fps []) w hp w' → w'.cell? ⟨bT, oT + (tvs.length : Int).toNat, none⟩ = some (.slice Ae ne ce) := fun hp w' h => by
        have := (hcell2 hp w' h) 0 _ rfl
        simpa using this
      (repeat (first | (refine i_dst ?_; (first | (refine i_move ?_; refine l_q rfl rfl rfl (q_move rfl) ?_) | (refine i_assign ?_; refine l_q rfl rfl rfl (q_assign rfl) ?_) | (refine i_load ?_; refine l_q rfl rfl rfl (by (exact q_ldc tab rfl rfl rfl (by assumption))) ?_) | (refine i_bin ?_; refine l_q rfl rfl rfl (by (exact q_lss rfl rfl)) ?_) | (refine i_ix ?_; refine l_q rfl rfl rfl (by (exact q_indexAddr1 tab rfl rfl rfl rfl (by omega))) ?_))) | refine d_seq ?_ | refine c_region ?_ | refine l_nil ?_ | refine c_block ?_ | (refine i_q ?_; (refine d_then ?_)) | refine c_skip ?_ | (refine i_cond ?_; (refine c_ct rfl (by (exact decide_eq_true (by omega))) ?_))))
      (refine l_call0 rfl rfl Try.func35 rfl (by decide) (fun w' h => eclone_spec (hE.to (fun r hr => roOf0 h hr) (fun _ _ hx => hx)) (by omega)) (fun v B hv => ?_); obtain ⟨A5, c5, rfl, rfl⟩ := hv)
      (repeat ((refine i_dst ?_; ((refine i_bldS ?_; refine l_bldS tab rfl rfl rfl rfl (by first | exact CellsOf.agg | exact CellsOf.one rfl) (by first | ((repeat (first | exact RepR.zero | exact AppR.nil | apply RepR.succ | apply AppR.cons)); done) | fail) (by first | ((repeat (first | exact FillR.nil | exact LSets.nil | exact LSet.zero | exact CellsOf.agg | exact rfl | exact CellsOf.one rfl | apply FillR.cons | apply LSets.cons | apply LSet.succ)); done) | fail) (fun w => by kernel_rfl) (fun _ => ?_))))))
      rename_i g4
      (refine l_app tab rfl rfl rfl rowEE (by first | ((repeat (first | exact Ext.head | apply Ext.tail)); done) | fail) (news := [.slice A5 t.length c5]) (fun w h => SrcAt.blk (h.mem (by first | ((repeat (first | exact List.Mem.head _ | apply List.Mem.tail)); done) | fail)) rfl) (by simp [Value.oneCell']) (by omega) (by omega) (fun A6 c6 hA1 hA2 => ?_))
      (repeat (first | (refine i_dst ?_; (first | (refine i_move ?_; refine l_q rfl rfl rfl (q_move rfl) ?_) | (refine i_assign ?_; refine l_q rfl rfl rfl (q_assign rfl) ?_) | (refine i_bin ?_; refine l_q rfl rfl rfl (by (exact q_add rfl rfl (by (exact wr_i64 (by omega))))) ?_))) | refine c_region ?_ | refine l_nil ?_ | (refine i_q ?_; (first | refine d_then ?_ | refine t_then ?_ | refine t_block ?_))))
      have htk : l.tabs.take (tvs.length + 1) = l.tabs.take tvs.length ++ [t] := by rw [List.take_add_one, ht]; rfl
      refine k_again (.slice A6 (tvs.length + 1) c6, tvs ++ [.slice A5 t.length c5]) (by dsimp only; rw [List.length_append, List.length_singleton]; omega) (by dsimp only; rw [List.length_append, List.length_singleton]; omega) ?_ (fun w h => ?_)
      · dsimp only
        rw [List.length_append, List.length_singleton]
        exact (by first | ((repeat (first | exact trivial | exact rfl | apply Sub.cons | exact look_int rfl (by omega) | exact look_int rfl (by simp) | exact look_int rfl (by simp; omega))); done) | fail)
      · dsimp only
        rw [List.length_append, List.length_singleton, htk]
        have h1 := h.psub (hp' := row 37 1 (.slice A6 (tvs.length + 1) c6) (tvs.length + 1) (tvs ++ [.slice A5 t.length c5]) :: entA (.slice A5 t.length c5) t :: starL (List.zipWith entA tvs (l.tabs.take tvs.length)) :: [blk b6 [.int .i64 l.first, .slice (some ⟨bT, oT, none⟩) nt ct, .bool l.stim, .int .u8 l.ev, .int .u8 l.pre, .int .u8 l.pri, .bool l.on, .bool l.ch] 27, row 27 8 (.slice Ao ys.length co) ys.length (ys.flatMap lstCells), starL (ys.map tblA)]) (by first | ((repeat (first | exact PSub.nil | exact Ext.head | apply Ext.tail | apply PSub.cons)); done) | fail)
        exact ot_shut rfl (by rw [List.length_take]; omega) h1
    · have hjn : tvs.length = nt := by omega
      rw [List.take_of_length_le (by omega)]
      refine c_hp (fun w h => ot_mk (y := ⟨.slice Aq tvs.length cq, tvs, l.tabs⟩) (st_pure (show tvs.length = l.tabs.length by omega) h |>.perm (.swap _ _ _))) ?_
      (repeat (first | (refine i_dst ?_; (first | (refine i_move ?_; refine l_q rfl rfl rfl (q_move rfl) ?_) | (refine i_load ?_; refine l_q rfl rfl rfl (by ((exact q_ldN tab rfl rfl rfl rfl (by first | ((repeat (first | exact List.Mem.head _ | apply List.Mem.tail)); done) | fail) (by first | ((repeat (first | exact TakeR.nil | apply TakeR.cons | apply CutR.zero | apply CutR.skip)); done) | fail)))) ?_) | (refine i_bin ?_; refine l_q rfl rfl rfl (by (exact q_lss rfl rfl)) ?_) | (refine i_bldS ?_; refine l_bldS tab rfl rfl rfl rfl (by first | exact CellsOf.agg | exact CellsOf.one rfl) (by first | ((repeat (first | exact RepR.zero | exact AppR.nil | apply RepR.succ | apply AppR.cons)); done) | fail) (by first | ((repeat (first | exact FillR.nil | exact LSets.nil | exact LSet.zero | exact CellsOf.agg | exact rfl | exact CellsOf.one rfl | apply FillR.cons | apply LSets.cons | apply LSet.succ)); done) | fail) (fun w => by kernel_rfl) (fun _ => ?_)) | (refine l_q rfl rfl rfl (by ((apply iq_fld; (exact q_fieldAddr tab rfl rfl rfl rfl rfl rfl rfl)))) ?_))) | refine d_seq ?_ | refine c_region ?_ | refine l_nil ?_ | (refine i_q ?_; (first | refine d_then ?_ | refine d_then_exit ?_ | refine t_then_exit ?_ | refine t_block_eq rfl ?_)) | refine c_exit ?_ | (refine i_store ?_; ((refine l_set tab rfl rfl rfl rfl (by first | ((repeat (first | exact Upd.head | apply Upd.tail)); done) | fail) (by first | ((repeat (first | exact LSet.zero | apply LSet.succ)); done) | fail) ?_))) | (refine i_cond ?_; (refine c_cf rfl (by (exact decide_eq_false (by omega))) ?_))))
      rename_i g7
      (refine l_app tab rfl rfl rfl rowLL (by first | ((repeat (first | exact Ext.head | apply Ext.tail)); done) | fail) (news := [.int .i64 s, .slice Aq tvs.length cq, .bool l.stim, .int .u8 l.ev, .int .u8 l.pre, .int .u8 l.pri, .bool l.on, .bool l.ch]) (fun w h => SrcAt.blk (h.mem (by first | ((repeat (first | exact List.Mem.head _ | apply List.Mem.tail)); done) | fail)) rfl) (by simp [Value.oneCell']) (by omega) (by omega) (fun A7 c7 hA1 hA2 => ?_))
      (repeat (first | (refine i_dst ?_; (first | (refine i_move ?_; refine l_q rfl rfl rfl (q_move rfl) ?_) | (refine i_assign ?_; refine l_q rfl rfl rfl (q_assign rfl) ?_) | (refine i_bin ?_; refine l_q rfl rfl rfl (by (exact q_add rfl rfl (by (exact wr_i64 (by omega))))) ?_) | (refine i_blt ?_; refine l_q rfl rfl rfl (by (exact q_len tab rfl rfl)) ?_))) | refine c_region ?_ | refine l_nil ?_ | (refine i_q ?_; (first | refine d_then ?_ | refine t_then ?_ | refine t_block ?_))))
      refine k_again (ys ++ [⟨setF s l, .slice Aq tvs.length cq, tvs⟩], .slice A7 (ys.length + 1) c7) ⟨by dsimp only; rw [List.length_append, List.length_singleton]; omega, ?_⟩ (by dsimp only; rw [List.length_append, List.length_singleton]; omega) ?_ (fun w h => ?_)
      · dsimp only
        rw [List.map_append, List.length_append, List.length_singleton, htake, firstsL_snoc, hy2, hs, Nat.zero_add]
        rfl
      · dsimp only
        rw [List.length_append, List.length_singleton, hto2]
        exact (by first | ((repeat (first | exact trivial | exact rfl | apply Sub.cons | exact look_int rfl (by omega) | exact look_int rfl (by simp) | exact look_int rfl (by simp; omega))); done) | fail)
      · dsimp only
        rw [List.length_append, List.length_singleton, List.flatMap_append]
        have h1 := h.psub (hp' := tblA ⟨setF s l, .slice Aq tvs.length cq, tvs⟩ :: starL (ys.map tblA) :: [row 27 8 (.slice A7 (ys.length + 1) c7) (ys.length + 1) (ys.flatMap lstCells ++ [.int .i64 s, .slice Aq tvs.length cq, .bool l.stim, .int .u8 l.ev, .int .u8 l.pre, .int .u8 l.pri, .bool l.on, .bool l.ch])]) (by first | ((repeat (first | exact PSub.nil | exact Ext.head | apply Ext.tail | apply PSub.cons)); done) | fail)
        exact (st_tbls h1).perm (.swap _ _ _)
  · (repeat (first | (refine i_dst ?_; (first | (refine i_move ?_; refine l_q rfl rfl rfl (q_move rfl) ?_) | (refine i_assign ?_; refine l_q rfl rfl rfl (q_assign rfl) ?_) | (refine i_bin ?_; refine l_q rfl rfl rfl (by (exact q_lss rfl rfl)) ?_))) | refine d_seq ?_ | refine c_region ?_ | refine l_nil ?_ | (refine i_q ?_; (first | refine d_then ?_ | refine d_then_exit ?_ | refine t_then_exit ?_ | refine t_block_eq rfl ?_)) | refine c_exit ?_ | refine c_ret ?_ | (refine i_cond ?_; (refine c_cf rfl (by (exact decide_eq_false (by omega))) ?_))))
    refine t_hp (fun w h => h.subl (by first | ((repeat (first | exact SubL.nil | apply SubL.keep | apply SubL.skip)); done) | fail)) (t_ret1 Try.results16 rfl ⟨Ao, co, ys, rfl, rfl, ?_, ho1, ho2, hAo⟩)
    rw [hy2, List.take_of_length_le (by omega)]
end Go.Proofs.Ytboccjdncdaakaa

/-
  copy of things of more cells than one; a make of structs.
-/

set_option linter.unusedVariables false
set_option maxRecDepth 100000
namespace Go.Proofs.Ytboccjdncdaakaa
open Go.RowKit
section
variable {P : Program} {n : Nat} {S : Nat → Prop} {w0 : World} {Q : Exit → Act → World → Prop} {ops : Array Oper} {env : Env} {hp hp' : List Asn}
variable {d : Nat} {ty : TypeId} {pos : String} {af : Array Edge} {g : Option (Nat × Bool)} {K : Act → World → Prop} {rest : List Oper}
theorem e_copyS (T : Tab P) {t e : TypeId} {x y : Operand} {b o m c k c' sz : Nat} {A : Option Addr} {z : Value} {by_ : Nat} {news l : List Value} {t' : TypeId} {i : Nat} (hd : Nat.blt d n = true) (hx : ev env x = some (.slice (some ⟨b, o, none⟩) m c)) (hy : ev env y = some (.slice A k c')) (ht : T.u t = some (.slice e)) (hz : T.i e = some (z, sz, by_)) (hsz : 0 < sz)
    (hi : hp[i]? = some (blk b l t')) (hl : o + m * sz ≤ l.length) (hr : ∀ w, St S w0 hp w → SrcAt w A (k * sz) news) (h1 : ∀ u ∈ news, u.oneCell' = true)
    (h : TK n S w0 K ((d, .int .i64 ((min k m : Nat) : Int)) :: env) (hp.set i (blk b (setAt l o (news.take (min k m * sz))) t'))) : TO P n S w0 Q ⟨some d, .call { callee := .builtin .copy, args := #[x, y], argTypes := #[t, t] }, ty, pos, af, g⟩ K env hp := fun a w hE hS => by
  have hsrc := hr w hS
  have hle : min k m * sz ≤ k * sz := Nat.mul_le_mul_right _ (Nat.min_le_left _ _)
  have hle2 : min k m * sz ≤ m * sz := Nat.mul_le_mul_right _ (Nat.min_le_right _ _)
  have hlen : (news.take (min k m * sz)).length = min k m * sz := by rw [List.length_take, hsrc.1]; omega
  have hfc : (Builtin.firstCells sz (min k m) (.slice A k c')).run P w = .ok (news.take (min k m * sz)).toArray w := by
    rcases Nat.eq_zero_or_pos (min k m) with h0 | h0
    · rw [h0]
      cases A <;> simp [Builtin.firstCells, loadCells, loadCellsFrom]
    · obtain ⟨b', o', rfl, hc⟩ := hsrc.2 (Nat.mul_pos (by omega) hsz)
      simp only [Builtin.firstCells]
      exact run_loadCells' P (fun j u hu => hc j u (by
        rw [List.getElem?_take] at hu
        split at hu
        · exact hu
        · cases hu)) hlen
  obtain ⟨w', h2, h3, h4⟩ := run_storeCells' (P := P) o (news.take (min k m * sz)) 0 l w (hS.get hi) (by rw [hlen]; omega) (fun u hu => h1 u (List.mem_of_mem_take hu))
  have hrun : (Builtin.copy_ #[t, t] ty #[.slice (some ⟨b, o, none⟩) m c, .slice A k c']).run P w = .ok (.int .i64 ((min k m : Nat) : Int)) w' := by
    simp only [Builtin.copy_]
    simp [run_underlying (T.U ht), Builtin.lenOf, T.size hz, goInt]
    rw [show Nat.min k m = min k m from rfl, hfc]
    simp [h2]
  have := h _ w' (hE.put hd _) (hS.repl hi h4 (by simpa using h3) (fun _ h => .inl h))
  unfold Oper.wp execOp
  simp only [resolve, invoke, builtin, Sem.run_bind, Sem.run_pure, Result.andThen_ok, List.map_toArray, List.map_cons, List.map_nil, hE.ev hx, hE.ev hy, hrun]
  exact this
theorem run_eqfnIn (T : Tab P) {t : TypeId} {ps rs : Array TypeId} {vr : Bool} (ht : T.u t = some (.func ps rs vr)) (f : Fn) (a b : Array Value) (w : World) (k : Nat) : (Op.equalIn (k + 1) t (.func f a b) .nilFunc).run P w = .ok false w := by
  simp [Op.equalIn, run_underlying (T.U ht)]
/-- A function that is there is not nil. -/
theorem q_eqfn (T : Tab P) {d : Option Nat} {t yt : TypeId} {x y : Operand} {f : Fn} {a b : Array Value} {ps rs : Array TypeId} {vr : Bool} (hx : ev env x = some (.func f a b)) (hy : ev env y = some .nilFunc) (ht : T.u t = some (.func ps rs vr)) : Qt P S w0 ⟨d, .binOp .eql t x y yt, ty, pos, af, g⟩ env hp (.bool false) := fun n ac w hE hS => by
  have : (Op.equal t (.func f a b) .nilFunc).run P w = .ok false w := run_eqfnIn T ht f a b w 9999
  simp [execOp, hE.ev hx, hE.ev hy, eqGuard, binOp, this]
end
end Go.Proofs.Ytboccjdncdaakaa

/-
  Layer 17: each, and what it does of each table, walked.
-/

set_option linter.unusedVariables false
set_option maxRecDepth 100000
namespace Go.Proofs.Ytboccjdncdaakaa
open Go.RowKit
attribute [local irreducible] TL TC TQ TK TO Qt TA
theorem rowCC : RowT tab 51 59 8 40 (.agg #[.int .u8 0, .int .u8 0, .int .u8 0, .int .u8 0, .int .u8 0, .int .u8 0, .int .u32 0, .slice none 0 0]) := ⟨rfl, rfl, rfl, by decide⟩
/-- Commands, and where their slice stands. -/
def outL (b : Nat) (ov : Value) (cs : List CmdV) : List Asn := [blk b [ov] 51, row 59 8 ov cs.length (cs.flatMap cmdC)]
theorem flat_snoc (cs : List CmdV) (c : CmdV) : (cs ++ [c]).flatMap cmdC = cs.flatMap cmdC ++ cmdC c := by simp
section
variable {S : Nat → Prop} {w0 w : World} {b : Nat} {ov : Value} {cs : List CmdV} {F : List Asn}
theorem out_v (h : St S w0 (outL b ov cs ++ F) w) : ∃ Ao co, ov = .slice Ao cs.length co ∧ cs.length ≤ co ∧ co ≤ maxLen := by
  obtain ⟨Ao, co, e1, e2, e3, -⟩ := row_slice (h.get (i := 1) rfl)
  exact ⟨Ao, co, e1, e2, e3⟩
theorem out_mk {v : Value} {n : Nat} {c : CmdV} {xs : List Value} (hn : n = cs.length + 1) (hx : xs = cs.flatMap cmdC ++ cmdC c) (h : St S w0 (blk b [v] 51 :: row 59 8 v n xs :: F) w) : St S w0 (outL b v (cs ++ [c]) ++ F) w := by
  subst hn hx
  unfold outL
  rw [flat_snoc, List.length_append, List.length_singleton]
  exact h
end
/-- Of a closure: what it adds. -/
def Adds (G : List CmdV → Prop) (b : Nat) (cs : List CmdV) (m : Nat) (B : List Asn) : Prop := ∃ ov' cs', B = outL b ov' cs' ∧ cs'.length ≤ cs.length + m ∧ G cs'
attribute [local irreducible] blk row bytesA starL memA segA roB
set_option maxHeartbeats 4000000 in
theorem splay1_spec {G : List CmdV → Prop} (hG : ∀ cs c, G cs → c.Ok → c.code = 21 → G (cs ++ [c])) {b : Nat} {ov : Value} {cs : List CmdV} {w : World} (hA : Hold (outL b ov cs) w) (i k ne ce : Nat) (A : Option Addr) (hi : i ≤ 255) (hk : k ≤ 255) (hne : ne ≤ 7) (hcs : cs.length ≤ 1000) (hg : G cs) :
    Calls Try.prog 29 #[.int .u8 i, .int .u8 k, .slice A ne ce, .pointer (some ⟨b, 0, none⟩)] w (Ret w (outL b ov cs) fun v B => Adds G b cs 8 B) := by
  have hmx : maxLen = 2 ^ 63 - 1 := rfl
  refine enter (vs := [.int .u8 i, .int .u8 k, .slice A ne ce, .pointer (some ⟨b, 0, none⟩)]) Try.func29 rfl Try.ntmps29 rfl hA ?_
  refine c_fact (p := ∃ Ao co, ov = .slice Ao cs.length co ∧ cs.length ≤ co ∧ co ≤ maxLen) (fun w h => out_v (F := []) h) ?_
  rintro ⟨Ao, co, rfl, ho1, ho2⟩
  refine c_hp (hp' := [blk b [.slice Ao cs.length co] 51, row 59 8 (.slice Ao cs.length co) cs.length (cs.flatMap cmdC)]) (fun w h => h) ?_
  (repeat fail)
  (refine a_beginE mixed [blk b [.slice Ao cs.length co] 51] [] 11 10 rfl (fun w h => h.subl (by first | ((repeat (first | exact SubL.nil | apply SubL.keep | apply SubL.skip)); done) | fail)) (fun w h => h.subl (by first | ((repeat (first | exact SubL.nil | apply SubL.keep | apply SubL.skip)); done) | fail)) ?_)
  ((((refine a_y 0 rfl rfl rfl rfl rfl (by decide +kernel) (by ((exact q_ld1 tab rfl rfl rfl (by first | ((repeat (first | exact List.Mem.head _ | apply List.Mem.tail)); done) | fail) (by (rfl))))) ?_)); refine a_q 1 rfl rfl rfl rfl rfl (by decide +kernel) (q_move rfl) ?_; refine a_q 2 rfl rfl rfl rfl rfl (by decide +kernel) (q_move rfl) ?_; refine a_q 3 rfl rfl rfl rfl rfl (by decide +kernel) (q_move rfl) ?_; refine a_q 4 rfl rfl rfl rfl rfl (by decide +kernel) (by (exact q_len tab rfl rfl)) ?_; refine a_q 5 rfl rfl rfl rfl rfl (by decide +kernel) (by ((apply iq_cv; (exact q_conv tab rfl rfl rfl (by (exact wr_u8 (by omega))))))) ?_))
  (refine a_e 6 rfl (by decide +kernel) rfl (fun K hK => e_bldS tab rfl rfl rfl rfl (by first | exact CellsOf.agg | exact CellsOf.one rfl) (by first | ((repeat (first | exact RepR.zero | exact AppR.nil | apply RepR.succ | apply AppR.cons)); done) | fail) (by first | ((repeat (first | exact FillR.nil | exact LSets.nil | exact LSet.zero | exact CellsOf.agg | exact rfl | exact CellsOf.one rfl | apply FillR.cons | apply LSets.cons | apply LSet.succ)); done) | fail) (fun w => by kernel_rfl) (fun g1 => hK _ _ (fun w h => h.subl (by first | ((repeat (first | exact SubL.nil | apply SubL.keep | apply SubL.skip)); done) | fail)) ?_)); clear hK)
  (skip)
  (refine a_e 7 rfl (by decide +kernel) rfl (fun K hK => e_call0 rfl rfl Try.func27 rfl (by decide) (fun w' h => spsmall_spec 21 [i, k, ne] _ 3 3 w' (by omega) (uv_blk (h.mem (X := blk g1 (uv [i, k, ne]) 5) (by first | ((repeat (first | exact List.Mem.head _ | apply List.Mem.tail)); done) | fail)))) (fun v B hv => ?_)); obtain ⟨rfl, rfl⟩ := hv; refine hK _ _ (fun w h => h.subl (by first | ((repeat (first | exact SubL.nil | apply SubL.keep | apply SubL.skip)); done) | fail)) ?_; clear hK)
  (skip)
  simp only [cmdC]
  (refine a_e 8 rfl (by decide +kernel) rfl (fun K hK => e_bldS tab rfl rfl rfl rfl (by first | exact CellsOf.agg | exact CellsOf.one rfl) (by first | ((repeat (first | exact RepR.zero | exact AppR.nil | apply RepR.succ | apply AppR.cons)); done) | fail) (by first | ((repeat (first | exact FillR.nil | exact LSets.nil | exact LSet.zero | exact CellsOf.agg | exact rfl | exact CellsOf.one rfl | apply FillR.cons | apply LSets.cons | apply LSet.succ)); done) | fail) (fun w => by kernel_rfl) (fun g2 => hK _ _ (fun w h => h.subl (by first | ((repeat (first | exact SubL.nil | apply SubL.keep | apply SubL.skip)); done) | fail)) ?_)); clear hK)
  (skip)
  (refine a_e 9 rfl (by decide +kernel) rfl (fun K hK => e_app tab rfl rfl rfl rowCC (by first | ((repeat (first | exact Ext.head | apply Ext.tail)); done) | fail) (news := cmdC (smC 21 [i, k, ne])) (fun w h => SrcAt.blk (h.mem (by first | ((repeat (first | exact List.Mem.head _ | apply List.Mem.tail)); done) | fail)) rfl) (by simp [cmdC, Value.oneCell']) (by omega) (by omega) (fun A3 c3 hA1 hA2 => hK _ _ (fun w h => h.subl (by first | ((repeat (first | exact SubL.nil | apply SubL.keep | apply SubL.skip)); done) | fail)) ?_)); clear hK)
  (skip)
  (refine a_e 10 rfl (by decide +kernel) rfl (fun K hK => e_set tab rfl rfl rfl rfl (by first | ((repeat (first | exact Upd.head | apply Upd.tail)); done) | fail) (by first | ((repeat (first | exact LSet.zero | apply LSet.succ)); done) | fail) (hK _ _ (fun w h => h.subl (by first | ((repeat (first | exact SubL.nil | apply SubL.keep | apply SubL.skip)); done) | fail)) ?_)); clear hK)
  refine a_done (by decide +kernel) ?_
  (repeat fail)
  refine t_hp (hp' := outL b (.slice A3 (cs.length + 1) c3) (cs ++ [smC 21 [i, k, ne]])) (fun w h => out_mk (F := []) rfl rfl (h.psub (by first | ((repeat (first | exact PSub.nil | exact Ext.head | apply Ext.tail | apply PSub.cons)); done) | fail))) (t_end0 Try.results29 ⟨_, _, rfl, by simp, hG cs _ hg ⟨by simp [smC], by simpa [smC] using hi, by simpa [smC] using hk, by simp [smC]; omega, by simp [smC], by simp [smC], by simp [smC]⟩ rfl⟩)

set_option maxHeartbeats 8000000 in
theorem splay2_spec {G : List CmdV → Prop} (hG : ∀ cs c, G cs → c.Ok → c.code = 22 ∨ c.code = 23 → G (cs ++ [c])) {b : Nat} {ov : Value} {cs : List CmdV} {w : World} (hA : Hold (outL b ov cs) w) (i k ne ce : Nat) (A : Option Addr) (t : List EntryI) (hE : InS (fps (outL b ov cs)) w 3 InEntry A ne t) (hi : i ≤ 255) (hk : k ≤ 255) (hne : ne ≤ 7) (hcs : cs.length ≤ 1000) (hg : G cs) :
    Calls Try.prog 30 #[.int .u8 i, .int .u8 k, .slice A ne ce, .pointer (some ⟨b, 0, none⟩)] w (Ret w (outL b ov cs) fun v B => Adds G b cs 8 B) := by
  have hmx : maxLen = 2 ^ 63 - 1 := rfl
  have hel := hE.len
  refine enter (vs := [.int .u8 i, .int .u8 k, .slice A ne ce, .pointer (some ⟨b, 0, none⟩)]) Try.func30 rfl Try.ntmps30 rfl hA ?_
  refine c_fact (p := ∃ Ao co, ov = .slice Ao cs.length co ∧ cs.length ≤ co ∧ co ≤ maxLen) (fun w h => out_v (F := []) h) ?_
  rintro ⟨Ao, co, rfl, ho1, ho2⟩
  refine c_hp (hp' := [blk b [.slice Ao cs.length co] 51, row 59 8 (.slice Ao cs.length co) cs.length (cs.flatMap cmdC)]) (fun w h => h) ?_
  (repeat (refine d_seq ?_))
  (refine a_beginE mixed [blk b [.slice Ao cs.length co] 51] [] 8 7 rfl (fun w h => h.subl (by first | ((repeat (first | exact SubL.nil | apply SubL.keep | apply SubL.skip)); done) | fail)) (fun w h => h.subl (by first | ((repeat (first | exact SubL.nil | apply SubL.keep | apply SubL.skip)); done) | fail)) ?_)
  ((((refine a_y 0 rfl rfl rfl rfl rfl (by decide +kernel) (by ((exact q_ld1 tab rfl rfl rfl (by first | ((repeat (first | exact List.Mem.head _ | apply List.Mem.tail)); done) | fail) (by (rfl))))) ?_)); refine a_q 1 rfl rfl rfl rfl rfl (by decide +kernel) (q_move rfl) ?_; refine a_q 2 rfl rfl rfl rfl rfl (by decide +kernel) (q_move rfl) ?_))
  (refine a_e 3 rfl (by decide +kernel) rfl (fun K hK => e_bldS tab rfl rfl rfl rfl (by first | exact CellsOf.agg | exact CellsOf.one rfl) (by first | ((repeat (first | exact RepR.zero | exact AppR.nil | apply RepR.succ | apply AppR.cons)); done) | fail) (by first | ((repeat (first | exact FillR.nil | exact LSets.nil | exact LSet.zero | exact CellsOf.agg | exact rfl | exact CellsOf.one rfl | apply FillR.cons | apply LSets.cons | apply LSet.succ)); done) | fail) (fun w => by kernel_rfl) (fun g1 => hK _ _ (fun w h => h.subl (by first | ((repeat (first | exact SubL.nil | apply SubL.keep | apply SubL.skip)); done) | fail)) ?_)); clear hK)
  (skip)
  (refine a_e 4 rfl (by decide +kernel) rfl (fun K hK => e_call0 rfl rfl Try.func27 rfl (by decide) (fun w' h => spsmall_spec 22 [i, k] _ 2 2 w' (by omega) (uv_blk (h.mem (X := blk g1 (uv [i, k]) 5) (by first | ((repeat (first | exact List.Mem.head _ | apply List.Mem.tail)); done) | fail)))) (fun v B hv => ?_)); obtain ⟨rfl, rfl⟩ := hv; refine hK _ _ (fun w h => h.subl (by first | ((repeat (first | exact SubL.nil | apply SubL.keep | apply SubL.skip)); done) | fail)) ?_; clear hK)
  (skip)
  simp only [cmdC]
  (refine a_e 5 rfl (by decide +kernel) rfl (fun K hK => e_bldS tab rfl rfl rfl rfl (by first | exact CellsOf.agg | exact CellsOf.one rfl) (by first | ((repeat (first | exact RepR.zero | exact AppR.nil | apply RepR.succ | apply AppR.cons)); done) | fail) (by first | ((repeat (first | exact FillR.nil | exact LSets.nil | exact LSet.zero | exact CellsOf.agg | exact rfl | exact CellsOf.one rfl | apply FillR.cons | apply LSets.cons | apply LSet.succ)); done) | fail) (fun w => by kernel_rfl) (fun g2 => hK _ _ (fun w h => h.subl (by first | ((repeat (first | exact SubL.nil | apply SubL.keep | apply SubL.skip)); done) | fail)) ?_)); clear hK)
  (skip)
  (refine a_e 6 rfl (by decide +kernel) rfl (fun K hK => e_app tab rfl rfl rfl rowCC (by first | ((repeat (first | exact Ext.head | apply Ext.tail)); done) | fail) (news := cmdC (smC 22 [i, k])) (fun w h => SrcAt.blk (h.mem (by first | ((repeat (first | exact List.Mem.head _ | apply List.Mem.tail)); done) | fail)) rfl) (by simp [cmdC, Value.oneCell']) (by omega) (by omega) (fun A3 c3 hA1 hA2 => hK _ _ (fun w h => h.subl (by first | ((repeat (first | exact SubL.nil | apply SubL.keep | apply SubL.skip)); done) | fail)) ?_)); clear hK)
  (skip)
  (refine a_e 7 rfl (by decide +kernel) rfl (fun K hK => e_set tab rfl rfl rfl rfl (by first | ((repeat (first | exact Upd.head | apply Upd.tail)); done) | fail) (by first | ((repeat (first | exact LSet.zero | apply LSet.succ)); done) | fail) (hK _ _ (fun w h => h.subl (by first | ((repeat (first | exact SubL.nil | apply SubL.keep | apply SubL.skip)); done) | fail)) ?_)); clear hK)
  refine a_done (by decide +kernel) ?_
  have hg1 : G (cs ++ [smC 22 [i, k]]) := hG cs _ hg ⟨by simp [smC], by simpa [smC] using hi, by simpa [smC] using hk, by simp [smC], by simp [smC], by simp [smC], by simp [smC]⟩ (.inl rfl)
  refine t_hp (hp' := outL b (.slice A3 (cs.length + 1) c3) (cs ++ [smC 22 [i, k]])) (fun w h => out_mk (F := []) rfl rfl (h.psub (by first | ((repeat (first | exact PSub.nil | exact Ext.head | apply Ext.tail | apply PSub.cons)); done) | fail))) ?_
  (repeat (first | (refine i_dst ?_; (first | (refine i_move ?_; refine l_q rfl rfl rfl (q_move rfl) ?_) | (refine i_blt ?_; refine l_q rfl rfl rfl (by (exact q_len tab rfl rfl)) ?_))) | refine d_seq ?_ | refine c_region ?_ | refine l_nil ?_ | refine c_block ?_ | (refine i_q ?_; (refine d_then ?_))))
  refine d_loop (T := Nat × Value × List CmdV) [3, 16, 17] (fun t => [(18, .int .i64 t.1)]) [] (fun t => outL b t.2.1 t.2.2) (fun t => t.1 ≤ ne ∧ t.2.2.length ≤ cs.length + 1 + t.1 ∧ G t.2.2) (fun t => ne - t.1) (0, .slice A3 (cs.length + 1) c3, cs ++ [smC 22 [i, k]]) (by first | ((repeat (first | exact Pick.nil | exact rfl | apply Pick.cons)); done) | fail) ⟨Nat.zero_le _, by simp, hg1⟩ (by first | ((repeat (first | exact trivial | exact rfl | apply Sub.cons | exact look_int rfl (by omega) | exact look_int rfl (by simp) | exact look_int rfl (by simp; omega))); done) | fail) (fun w h => by simpa using h) ?_
  rintro ⟨j, ov, cs2⟩ ⟨hj, hc2, hg2⟩
  dsimp only at hj hc2 hg2 ⊢
  by_cases hlt : j < ne
  · obtain ⟨e, he⟩ : ∃ e, t[j]? = some e := ⟨_, List.getElem?_eq_getElem (by omega)⟩
    obtain ⟨bE, oE, r3, rfl, hrl3, ⟨rfl, e1, e2, e3⟩, hcell3⟩ := hE.get (by omega) he
    refine c_fact (p := ∃ Ao co, ov = .slice Ao cs2.length co ∧ cs2.length ≤ co ∧ co ≤ maxLen) (fun w h => out_v (F := []) h) ?_
    rintro ⟨Ao, co, rfl, ho1, ho2⟩
    refine c_hp (hp' := [blk b [.slice Ao cs2.length co] 51, row 59 8 (.slice Ao cs2.length co) cs2.length (cs2.flatMap cmdC)]) (fun w h => h) ?_
    (repeat (first | (refine i_dst ?_; (first | (refine i_load ?_; refine l_q rfl rfl rfl (by (exact q_ldcN tab rfl rfl rfl rfl (by assumption) rfl)) ?_) | (refine i_bin ?_; refine l_q rfl rfl rfl (by (exact q_lss rfl rfl)) ?_) | (refine i_ix ?_; refine l_q rfl rfl rfl (by (exact q_indexAddr tab rfl rfl rfl rfl (by omega))) ?_) | (refine i_alloc ?_; (refine l_allocA tab rfl rfl (fun _ => ?_))))) | refine d_seq ?_ | refine c_region ?_ | refine l_nil ?_ | refine c_block ?_ | (refine i_q ?_; (refine d_then ?_)) | refine c_skip ?_ | (refine i_store ?_; ((refine l_setN tab rfl rfl rfl rfl (List.cons_ne_nil _ _) rfl (by first | ((repeat (first | exact Upd.head | apply Upd.tail)); done) | fail) (by first | ((repeat (first | exact LSets.nil | exact LSet.zero | apply LSets.cons | apply LSet.succ)); done) | fail) ?_))) | (refine i_cond ?_; (refine c_ct rfl (by (exact decide_eq_true (by omega))) ?_))))
    rename_i b8
    (refine a_beginE mixed [blk b8 [.int .u8 e.size, .int .u8 e.area, .int .u32 e.at_] 44, blk b [.slice Ao cs2.length co] 51] [blk b8 [.int .u8 e.size, .int .u8 e.area, .int .u32 e.at_] 44] 12 11 rfl (fun w h => h.subl (by first | ((repeat (first | exact SubL.nil | apply SubL.keep | apply SubL.skip)); done) | fail)) (fun w h => h.subl (by first | ((repeat (first | exact SubL.nil | apply SubL.keep | apply SubL.skip)); done) | fail)) ?_)
    ((((refine a_y 0 rfl rfl rfl rfl rfl (by decide +kernel) (by ((exact q_ld1 tab rfl rfl rfl (by first | ((repeat (first | exact List.Mem.head _ | apply List.Mem.tail)); done) | fail) (by (rfl))))) ?_)); refine a_q 1 rfl rfl rfl rfl rfl (by decide +kernel) (by ((apply iq_fld; (exact q_fieldAddr tab rfl rfl rfl rfl rfl rfl rfl)))) ?_; ((refine a_q 2 rfl rfl rfl rfl rfl (by decide +kernel) (by ((exact q_ld1 tab rfl rfl rfl (by first | ((repeat (first | exact List.Mem.head _ | apply List.Mem.tail)); done) | fail) (by (rfl))))) ?_)); refine a_q 3 rfl rfl rfl rfl rfl (by decide +kernel) (by ((apply iq_fld; (exact q_fieldAddr tab rfl rfl rfl rfl rfl rfl rfl)))) ?_; ((refine a_q 4 rfl rfl rfl rfl rfl (by decide +kernel) (by ((exact q_ld1 tab rfl rfl rfl (by first | ((repeat (first | exact List.Mem.head _ | apply List.Mem.tail)); done) | fail) (by (rfl))))) ?_)); refine a_q 5 rfl rfl rfl rfl rfl (by decide +kernel) (by ((apply iq_fld; (exact q_fieldAddr tab rfl rfl rfl rfl rfl rfl rfl)))) ?_; ((refine a_q 6 rfl rfl rfl rfl rfl (by decide +kernel) (by ((exact q_ld1 tab rfl rfl rfl (by first | ((repeat (first | exact List.Mem.head _ | apply List.Mem.tail)); done) | fail) (by (rfl))))) ?_))))
    (refine a_e 7 rfl (by decide +kernel) rfl (fun K hK => e_bldS tab rfl rfl rfl rfl (by first | exact CellsOf.agg | exact CellsOf.one rfl) (by first | ((repeat (first | exact RepR.zero | exact AppR.nil | apply RepR.succ | apply AppR.cons)); done) | fail) (by first | ((repeat (first | exact FillR.nil | exact LSets.nil | exact LSet.zero | exact CellsOf.agg | exact rfl | exact CellsOf.one rfl | apply FillR.cons | apply LSets.cons | apply LSet.succ)); done) | fail) (fun w => by kernel_rfl) (fun g3 => hK _ _ (fun w h => h.subl (by first | ((repeat (first | exact SubL.nil | apply SubL.keep | apply SubL.skip)); done) | fail)) ?_)); clear hK)
    (skip)
    (refine a_e 8 rfl (by decide +kernel) rfl (fun K hK => e_call0 rfl rfl Try.func31 rfl (by decide) (fun w' h => spgreat_spec 23 e.at_ e3 [e.size, e.area] _ 2 2 w' (by omega) (uv_blk (h.mem (X := blk g3 (uv [e.size, e.area]) 5) (by first | ((repeat (first | exact List.Mem.head _ | apply List.Mem.tail)); done) | fail)))) (fun v B hv => ?_)); obtain ⟨rfl, rfl⟩ := hv; refine hK _ _ (fun w h => h.subl (by first | ((repeat (first | exact SubL.nil | apply SubL.keep | apply SubL.skip)); done) | fail)) ?_; clear hK)
    (skip)
    simp only [cmdC]
    (refine a_e 9 rfl (by decide +kernel) rfl (fun K hK => e_bldS tab rfl rfl rfl rfl (by first | exact CellsOf.agg | exact CellsOf.one rfl) (by first | ((repeat (first | exact RepR.zero | exact AppR.nil | apply RepR.succ | apply AppR.cons)); done) | fail) (by first | ((repeat (first | exact FillR.nil | exact LSets.nil | exact LSet.zero | exact CellsOf.agg | exact rfl | exact CellsOf.one rfl | apply FillR.cons | apply LSets.cons | apply LSet.succ)); done) | fail) (fun w => by kernel_rfl) (fun g4 => hK _ _ (fun w h => h.subl (by first | ((repeat (first | exact SubL.nil | apply SubL.keep | apply SubL.skip)); done) | fail)) ?_)); clear hK)
    (skip)
    (refine a_e 10 rfl (by decide +kernel) rfl (fun K hK => e_app tab rfl rfl rfl rowCC (by first | ((repeat (first | exact Ext.head | apply Ext.tail)); done) | fail) (news := cmdC (grC 23 e.at_ [e.size, e.area])) (fun w h => SrcAt.blk (h.mem (by first | ((repeat (first | exact List.Mem.head _ | apply List.Mem.tail)); done) | fail)) rfl) (by simp [cmdC, Value.oneCell']) (by omega) (by omega) (fun A4 c4 hA1 hA2 => hK _ _ (fun w h => h.subl (by first | ((repeat (first | exact SubL.nil | apply SubL.keep | apply SubL.skip)); done) | fail)) ?_)); clear hK)
    (skip)
    (refine a_e 11 rfl (by decide +kernel) rfl (fun K hK => e_set tab rfl rfl rfl rfl (by first | ((repeat (first | exact Upd.head | apply Upd.tail)); done) | fail) (by first | ((repeat (first | exact LSet.zero | apply LSet.succ)); done) | fail) (hK _ _ (fun w h => h.subl (by first | ((repeat (first | exact SubL.nil | apply SubL.keep | apply SubL.skip)); done) | fail)) ?_)); clear hK)
    refine a_done (by decide +kernel) ?_
    have hg3 : G (cs2 ++ [grC 23 e.at_ [e.size, e.area]]) := hG cs2 _ hg2 ⟨by simp [grC], by simpa [grC] using e1, by simpa [grC] using e2, by simp [grC], by simp [grC], by simp [grC], by simpa [grC] using e3⟩ (.inr rfl)
    refine t_hp (hp' := outL b (.slice A4 (cs2.length + 1) c4) (cs2 ++ [grC 23 e.at_ [e.size, e.area]])) (fun w h => out_mk (F := []) rfl rfl (h.psub (by first | ((repeat (first | exact PSub.nil | exact Ext.head | apply Ext.tail | apply PSub.cons)); done) | fail))) ?_
    (repeat (first | (refine i_dst ?_; (first | (refine i_move ?_; refine l_q rfl rfl rfl (q_move rfl) ?_) | (refine i_bin ?_; refine l_q rfl rfl rfl (by (exact q_add rfl rfl (by (exact wr_i64 (by omega))))) ?_))) | refine c_region ?_ | refine l_nil ?_ | (refine i_q ?_; (first | refine d_then ?_ | refine t_then ?_ | refine t_block ?_))))
    exact k_again (j + 1, .slice A4 (cs2.length + 1) c4, cs2 ++ [grC 23 e.at_ [e.size, e.area]]) ⟨by dsimp only; omega, by simp; omega, hg3⟩ (by dsimp only; omega) (by first | ((repeat (first | exact trivial | exact rfl | apply Sub.cons | exact look_int rfl (by omega) | exact look_int rfl (by simp) | exact look_int rfl (by simp; omega))); done) | fail) (fun w h => by simpa using h)
  · (repeat (first | (refine i_dst ?_; ((refine i_bin ?_; refine l_q rfl rfl rfl (by (exact q_lss rfl rfl)) ?_))) | refine d_seq ?_ | refine c_region ?_ | refine l_nil ?_ | (refine i_q ?_; (first | refine d_then ?_ | refine d_then_exit ?_ | refine t_then_exit ?_ | refine t_block_eq rfl ?_)) | refine c_exit ?_ | (refine i_cond ?_; (refine c_cf rfl (by (exact decide_eq_false (by omega))) ?_))))
    exact t_hp (hp' := outL b ov cs2) (fun w h => by simpa using h) (t_end0 Try.results30 ⟨_, _, rfl, by omega, hg2⟩)
end Go.Proofs.Ytboccjdncdaakaa

/-
  Layer 17: each, walked, for any closure that adds commands.
-/

set_option linter.unusedVariables false
set_option maxRecDepth 100000
namespace Go.Proofs.Ytboccjdncdaakaa
open Go.RowKit
attribute [local irreducible] TL TC TQ TK TO Qt TA
/-- Lists of few tables of few entries. -/
def FewT (l : ListI) : Prop := l.tabs.length ≤ 4 ∧ ∀ t ∈ l.tabs, t.length ≤ 7
attribute [local irreducible] blk row bytesA starL memA segA roB
set_option maxHeartbeats 8000000 in
theorem speach_spec {G : List CmdV → Prop} {f : FuncId} {fn : Func} (hf : Try.prog.funcs[f]? = some fn) (hb : fn.body.isSome = true) (hn : (fn.name == "runtime.NumGoroutine") = false) {b : Nat} {ov0 : Value} {cs0 : List CmdV} {w : World} (hA : Hold (outL b ov0 cs0) w)
    (step : ∀ (i k : Nat) (A : Option Addr) (ne ce : Nat) (t : List EntryI) (cs : List CmdV) (ov : Value) (w : World), i ≤ 255 → k ≤ 255 → Hold (outL b ov cs) w → InS (fps (outL b ov cs)) w 3 InEntry A ne t → ne ≤ 7 → cs.length ≤ 1000 → G cs → Calls Try.prog f #[.int .u8 i, .int .u8 k, .slice A ne ce, .pointer (some ⟨b, 0, none⟩)] w (Ret w (outL b ov cs) fun v B => Adds G b cs 8 B))
    {A : Option Addr} {n c : Nat} {ls : List ListI} (hls : InS (fps (outL b ov0 cs0)) w 8 (InList (fps (outL b ov0 cs0)) w) A n ls) (hn4 : n ≤ 4) (hsm : ∀ l ∈ ls, FewT l) (hcs : cs0.length ≤ 300) (hg : G cs0) :
    Calls Try.prog 28 #[.slice A n c, .func (.func f) #[] #[.pointer (some ⟨b, 0, none⟩)]] w (Ret w (outL b ov0 cs0) fun v B => Adds G b cs0 128 B) := by
  have hlen := hls.len
  refine enter (vs := [.slice A n c, .func (.func f) #[] #[.pointer (some ⟨b, 0, none⟩)]]) Try.func28 rfl Try.ntmps28 rfl hA ?_
  (repeat (first | (refine i_dst ?_; (first | (refine i_move ?_; refine l_q rfl rfl rfl (q_move rfl) ?_) | (refine i_blt ?_; refine l_q rfl rfl rfl (by (exact q_len tab rfl rfl)) ?_))) | refine d_seq ?_ | refine c_region ?_ | refine l_nil ?_ | refine c_block ?_ | (refine i_q ?_; (refine d_then ?_))))
  refine d_loop (T := Nat × Value × List CmdV) [1, 8, 9] (fun t => [(10, .int .i64 t.1)]) [] (fun t => outL b t.2.1 t.2.2) (fun t => t.1 ≤ n ∧ t.2.2.length ≤ cs0.length + 32 * t.1 ∧ G t.2.2) (fun t => n - t.1) (0, ov0, cs0) (by first | ((repeat (first | exact Pick.nil | exact rfl | apply Pick.cons)); done) | fail) ⟨Nat.zero_le _, by simp, hg⟩ (by first | ((repeat (first | exact trivial | exact rfl | apply Sub.cons | exact look_int rfl (by omega) | exact look_int rfl (by simp) | exact look_int rfl (by simp; omega))); done) | fail) (fun w h => by simpa using h) ?_
  rintro ⟨i, ov1, cs1⟩ ⟨hi, hc1, hg1⟩
  dsimp only at hi hc1 hg1 ⊢
  by_cases hlt : i < n
  · obtain ⟨l, hl⟩ : ∃ l, ls[i]? = some l := ⟨_, List.getElem?_eq_getElem (by omega)⟩
    obtain ⟨hs1, hs2⟩ := hsm l (List.mem_of_getElem? hl)
    obtain ⟨bL, oL, r, rfl, hrl, hL, hcell⟩ := hls.get (by omega) hl
    obtain ⟨⟨At, nt, ct, rfl, htabs, ht1, ht2⟩, -, -, -, -⟩ := hL
    have htl := htabs.len
    (repeat (first | (refine i_dst ?_; (first | (refine i_move ?_; refine l_q rfl rfl rfl (q_move rfl) ?_) | (refine i_assign ?_; refine l_q rfl rfl rfl (q_assign rfl) ?_) | (refine i_load ?_; refine l_q rfl rfl rfl (by (first | (exact q_ld1 tab rfl rfl rfl (by first | ((repeat (first | exact List.Mem.head _ | apply List.Mem.tail)); done) | fail) (by (rfl))) | exact q_ldcN tab rfl rfl rfl rfl (by assumption) rfl)) ?_) | (refine i_bin ?_; refine l_q rfl rfl rfl (by (exact q_lss rfl rfl)) ?_) | (refine i_blt ?_; refine l_q rfl rfl rfl (by (exact q_len tab rfl rfl)) ?_) | (refine i_ix ?_; refine l_q rfl rfl rfl (by (exact q_indexAddr tab rfl rfl rfl rfl (by omega))) ?_) | (refine i_alloc ?_; (refine l_allocA tab rfl rfl (fun _ => ?_))) | (refine l_q rfl rfl rfl (by ((apply iq_fld; (exact q_fieldAddr tab rfl rfl rfl rfl rfl rfl rfl)))) ?_))) | refine d_seq ?_ | refine c_region ?_ | refine l_nil ?_ | refine c_block ?_ | (refine i_q ?_; (refine d_then ?_)) | refine c_skip ?_ | (refine i_store ?_; ((refine l_setN tab rfl rfl rfl rfl (List.cons_ne_nil _ _) rfl (by first | ((repeat (first | exact Upd.head | apply Upd.tail)); done) | fail) (by first | ((repeat (first | exact LSets.nil | exact LSet.zero | apply LSets.cons | apply LSet.succ)); done) | fail) ?_))) | (refine i_cond ?_; (refine c_ct rfl (by (exact decide_eq_true (by omega))) ?_))))
    refine d_loop (T := Nat × Value × List CmdV) [1, 4, 8, 9, 10, 16, 17] (fun t => [(18, .int .i64 t.1)]) [] (fun t => outL b t.2.1 t.2.2) (fun t => t.1 ≤ nt ∧ t.2.2.length ≤ cs1.length + 8 * t.1 ∧ G t.2.2) (fun t => nt - t.1) (0, ov1, cs1) (by first | ((repeat (first | exact Pick.nil | exact rfl | apply Pick.cons)); done) | fail) ⟨Nat.zero_le _, by simp, hg1⟩ (by first | ((repeat (first | exact trivial | exact rfl | apply Sub.cons | exact look_int rfl (by omega) | exact look_int rfl (by simp) | exact look_int rfl (by simp; omega))); done) | fail) (fun w h => by simpa using h.subl (.skip (SubL.refl _))) ?_
    rintro ⟨k, ov2, cs2⟩ ⟨hk, hc2, hg2⟩
    dsimp only at hk hc2 hg2 ⊢
    by_cases hkl : k < nt
    · obtain ⟨t, ht⟩ : ∃ t, l.tabs[k]? = some t := ⟨_, List.getElem?_eq_getElem (by omega)⟩
      have ht7 := hs2 t (List.mem_of_getElem? ht)
      obtain ⟨bT, oT, r2, rfl, hrl2, hT, hcell2⟩ := htabs.get (by omega) ht
      obtain ⟨Ae, ne, ce, rfl, hE, he1, he2⟩ := hT
      have hel := hE.len
      have hc2' : ∀ hp w', St (fps (outL b ov0 cs0)) w hp w' → w'.cell? ⟨bT, oT + (k : Int).toNat, none⟩ = some (.slice Ae ne ce) := fun hp w' h => by
        have := (hcell2 hp w' h) 0 _ rfl
        simpa using this
      (repeat (first | (refine i_dst ?_; (first | (refine i_move ?_; refine l_q rfl rfl rfl (q_move rfl) ?_) | (refine i_assign ?_; refine l_q rfl rfl rfl (q_assign rfl) ?_) | (refine i_load ?_; refine l_q rfl rfl rfl (by (exact q_ldc tab rfl rfl rfl (by assumption))) ?_) | (refine i_bin ?_; refine l_q rfl rfl rfl (by (exact q_lss rfl rfl)) ?_) | (refine i_ix ?_; refine l_q rfl rfl rfl (by (exact q_indexAddr1 tab rfl rfl rfl rfl (by omega))) ?_) | (refine l_q rfl rfl rfl (by ((apply iq_cv; (exact q_conv tab rfl rfl rfl (by (exact wr_u8 (by omega))))))) ?_))) | refine d_seq ?_ | refine c_region ?_ | refine l_nil ?_ | refine c_block ?_ | (refine i_q ?_; (refine d_then ?_)) | refine c_skip ?_ | (refine i_cond ?_; (refine c_ct rfl (by (exact decide_eq_true (by omega))) ?_))))
      refine l_op rfl (fun K hK => e_callv (A := outL b ov2 cs2) (F := []) rfl rfl rfl hf hb hn (fun w h => h) (fun w' h => step i k Ae ne ce t cs2 ov2 w' (by omega) (by omega) h.split (hE.to (fun r hr => h.roOf hr (fun X hX => List.mem_append_left _ hX)) (fun _ _ hx => hx)) (by omega) (by omega) hg2) (fun v B hv => hK _ _ ?_))
      clear hK
      obtain ⟨ov3, cs3, rfl, hc3, hg3⟩ := hv
      (repeat (first | (refine i_dst ?_; (first | (refine i_move ?_; refine l_q rfl rfl rfl (q_move rfl) ?_) | (refine i_bin ?_; refine l_q rfl rfl rfl (by (exact q_add rfl rfl (by (exact wr_i64 (by omega))))) ?_))) | refine c_region ?_ | refine l_nil ?_ | (refine i_q ?_; (first | refine d_then ?_ | refine t_then ?_ | refine t_block ?_))))
      exact k_again (k + 1, ov3, cs3) ⟨by dsimp only; omega, by dsimp only; omega, hg3⟩ (by dsimp only; omega) (by first | ((repeat (first | exact trivial | exact rfl | apply Sub.cons | exact look_int rfl (by omega) | exact look_int rfl (by simp) | exact look_int rfl (by simp; omega))); done) | fail) (fun w h => h)
    · have hkn : k = nt := by omega
      subst hkn
      (repeat (first | (refine i_dst ?_; (first | (refine i_move ?_; refine l_q rfl rfl rfl (q_move rfl) ?_) | (refine i_bin ?_; refine l_q rfl rfl rfl (by (first | exact q_lss rfl rfl | exact q_add rfl rfl (by (exact wr_i64 (by omega))))) ?_))) | refine d_seq ?_ | refine c_region ?_ | refine l_nil ?_ | (refine i_q ?_; (first | refine d_then ?_ | refine t_then ?_ | refine d_then_exit ?_ | refine t_then_exit ?_ | refine t_block ?_ | refine t_block_eq rfl ?_)) | refine c_exit ?_ | (refine i_cond ?_; ((refine c_cf rfl (by (((first | (simp; done) | fail)))) ?_)))))
      exact k_again (i + 1, ov2, cs2) ⟨by dsimp only; omega, by dsimp only; omega, hg2⟩ (by dsimp only; omega) (by first | ((repeat (first | exact trivial | exact rfl | apply Sub.cons | exact look_int rfl (by omega) | exact look_int rfl (by simp) | exact look_int rfl (by simp; omega))); done) | fail) (fun w h => h)
  · (repeat (first | (refine i_dst ?_; ((refine i_bin ?_; refine l_q rfl rfl rfl (by (exact q_lss rfl rfl)) ?_))) | refine d_seq ?_ | refine c_region ?_ | refine l_nil ?_ | (refine i_q ?_; (first | refine d_then ?_ | refine d_then_exit ?_ | refine t_then_exit ?_ | refine t_block_eq rfl ?_)) | refine c_exit ?_ | (refine i_cond ?_; (refine c_cf rfl (by (exact decide_eq_false (by omega))) ?_))))
    exact t_hp (hp' := outL b ov1 cs1) (fun w h => by simpa using h) (t_end0 Try.results28 ⟨_, _, rfl, by omega, hg1⟩)
end Go.Proofs.Ytboccjdncdaakaa

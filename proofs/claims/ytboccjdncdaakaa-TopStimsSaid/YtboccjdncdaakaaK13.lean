/-
  Layer 17: Lay, walked, for lists that are all set and chosen.
-/
import Derived.Test.YtboccjdncdaakaaK12


set_option linter.unusedVariables false
set_option maxRecDepth 100000
namespace Go.Proofs.Ytboccjdncdaakaa
open Go.RowKit
attribute [local irreducible] TL TC TQ TK TO Qt TA
/-- What lays n lists that are all set and chosen. -/
structure LayOk (n : Nat) (cs : List CmdV) : Prop where
  ok : ∀ c ∈ cs, c.Ok
  ex : ∃ c0 c1 X Y Z cz, cs = [c0, c1] ++ X ++ Y ++ Z ++ [cz] ∧ c0.code = 18 ∧ (c1.code = 19 ∧ c1.a0 = n) ∧ (∀ c ∈ X, 20 ≤ c.code ∧ c.code ≤ 23) ∧ Y.length = n ∧ (∀ (i : Nat) c, Y[i]? = some c → c.code = 24 ∧ c.a0 = i ∧ c.a1 = 1) ∧ Z.length = n ∧ (∀ (i : Nat) c, Z[i]? = some c → c.code = 25 ∧ c.a0 = i ∧ c.a1 = 2) ∧ cz.code = 26 ∧ cz.a0 = 1
def GX (n : Nat) (cs : List CmdV) : Prop := (∀ c ∈ cs, c.Ok) ∧ ∃ X, cs = [smC 18 [], smC 19 [n]] ++ X ∧ ∀ c ∈ X, 20 ≤ c.code ∧ c.code ≤ 23
theorem gx_add {n : Nat} {cs : List CmdV} {c : CmdV} (h : GX n cs) (hc : c.Ok) (hk : 20 ≤ c.code ∧ c.code ≤ 23) : GX n (cs ++ [c]) := by
  obtain ⟨h1, X, rfl, h2⟩ := h
  refine ⟨fun x hx => ?_, X ++ [c], by simp, fun x hx => ?_⟩
  · rcases List.mem_append.1 hx with hx | hx
    · exact h1 x hx
    · rw [List.mem_singleton.1 hx]; exact hc
  · rcases List.mem_append.1 hx with hx | hx
    · exact h2 x hx
    · rw [List.mem_singleton.1 hx]; exact hk
theorem sm_ok {code : Nat} {l : List Nat} (hc : code ≤ 255) (hl : ∀ x ∈ l, x ≤ 255) : (smC code l).Ok := by
  have h : ∀ i, l.getD i 0 ≤ 255 := fun i => by
    rw [List.getD_eq_getElem?_getD]
    cases hq : l[i]? with
    | none => simp
    | some x => exact hl x (List.mem_of_getElem? hq)
  exact ⟨hc, h 0, h 1, h 2, h 3, h 4, Nat.zero_le _⟩
/-- What came so far of the modes, or of those that are chosen. -/
def Byi (code a1 : Nat) (Y : List CmdV) : Prop := ∀ (i : Nat) c, Y[i]? = some c → c.code = code ∧ c.a0 = i ∧ c.a1 = a1
theorem byi_nil (code a1 : Nat) : Byi code a1 [] := fun i c h => by simp at h
theorem byi_add {code a1 : Nat} {Y : List CmdV} {c : CmdV} (h : Byi code a1 Y) (h1 : c.code = code) (h2 : c.a0 = Y.length) (h3 : c.a1 = a1) : Byi code a1 (Y ++ [c]) := fun i x hx => by
  by_cases hi : i < Y.length
  · rw [List.getElem?_append_left hi] at hx
    exact h i x hx
  · rw [List.getElem?_append_right (by omega)] at hx
    have hl := (List.getElem?_eq_some_iff.1 hx).1
    rw [List.length_singleton] at hl
    have h0 : i - Y.length = 0 := by omega
    rw [h0] at hx
    injection hx with hx
    subst hx
    exact ⟨h1, by omega, h3⟩
theorem all_add {cs : List CmdV} {c : CmdV} (h : ∀ x ∈ cs, x.Ok) (hc : c.Ok) : ∀ x ∈ cs ++ [c], x.Ok := fun x hx => by
  rcases List.mem_append.1 hx with hx | hx
  · exact h x hx
  · rw [List.mem_singleton.1 hx]; exact hc
def rowCm (v : Value) (cs : List CmdV) : Asn := row 59 8 v cs.length (cs.flatMap cmdC)
theorem rowCm_snoc (v : Value) (cs : List CmdV) (c : CmdV) : rowCm v (cs ++ [c]) = row 59 8 v (cs.length + 1) (cs.flatMap cmdC ++ cmdC c) := by rw [rowCm, flat_snoc, List.length_append, List.length_singleton]
theorem rowCm_app (v : Value) (cs zs : List CmdV) : rowCm v (cs ++ zs) = row 59 8 v (cs.length + zs.length) (cs.flatMap cmdC ++ zs.flatMap cmdC) := by rw [rowCm, List.flatMap_append, List.length_append]
theorem cmds_one (cs : List CmdV) : ∀ u ∈ cs.flatMap cmdC, u.oneCell' = true := fun u hu => by
  obtain ⟨c, _, hc⟩ := List.mem_flatMap.1 hu
  simp only [cmdC, List.mem_cons, List.not_mem_nil, or_false] at hc
  rcases hc with rfl | rfl | rfl | rfl | rfl | rfl | rfl | rfl <;> rfl
theorem rowCm_add {S : Nat → Prop} {w0 w : World} {F : List Asn} {v : Value} {n : Nat} {cs : List CmdV} {c : CmdV} {xs : List Value} (hn : n = cs.length + 1) (hx : xs = cs.flatMap cmdC ++ cmdC c) (h : St S w0 (row 59 8 v n xs :: F) w) : St S w0 (rowCm v (cs ++ [c]) :: F) w := by
  subst hn hx
  unfold rowCm
  rw [flat_snoc, List.length_append, List.length_singleton]
  exact h
theorem row_blkS {e e' : TypeId} {size g b n c k : Nat} {xs l : List Value} (h : (row e size (.slice (some ⟨g, 0, none⟩) n c) k xs).S b) : (blk g l e').S b := by
  injection h with h
  exact h.symm
def LayOut (n : Nat) (v : Value) (B : List Asn) : Prop := (∃ e : Int, e ≠ 0 ∧ v = .tuple #[.slice none 0 0, .int .i64 e] ∧ B = []) ∨ ∃ A' c' cs, v = .tuple #[.slice A' cs.length c', .int .i64 0] ∧ B = [rowCm (.slice A' cs.length c') cs] ∧ LayOk n cs ∧ cs.length ≤ 64
attribute [local irreducible] blk row bytesA starL memA segA roB
set_option maxHeartbeats 16000000 in
theorem splay_spec {A : Option Addr} {n c : Nat} {ls : List ListI} {w : World} (hls : InS (fps []) w 8 (InList (fps []) w) A n ls) (hn4 : n ≤ 4) (hsm : ∀ l ∈ ls, FewT l) (hch : ∀ l ∈ ls, l.stim = true ∧ l.ch = true) :
    Calls Try.prog 13 #[.slice A n c] w (Ret w [] (LayOut n)) := by
  have hlen := hls.len
  have hmx : maxLen = 2 ^ 63 - 1 := rfl
  have hsmall : ∀ l ∈ ls, SmallL l := fun l hl => by
    obtain ⟨h1, h2⟩ := hsm l hl
    exact ⟨by omega, fun t ht => by have := h2 t ht; omega⟩
  refine enter (vs := [.slice A n c]) Try.func13 rfl Try.ntmps13 rfl (Hold.nil w) ?_
  (repeat (first | (refine i_dst ?_; (first | (refine i_move ?_; refine l_q rfl rfl rfl (q_move rfl) ?_) | (refine i_assign ?_; refine l_q rfl rfl rfl (q_assign rfl) ?_))) | refine d_seq ?_ | refine c_region ?_ | refine l_nil ?_ | (refine i_q ?_; (refine d_then ?_))))
  (refine l_call0 rfl rfl Try.func26 rfl (by decide) (fun w' h => spmay_spec (hls.to (fun r hr => roOf0 h hr) (fun _ _ hx => hx.to (fun r hr => roOf0 h hr))) (by omega) hsmall) (fun v B hv => ?_); obtain ⟨b, rfl, rfl⟩ := hv)
  cases b with
  | false =>
    (repeat (first | (refine i_dst ?_; (first | (refine i_assign ?_; refine l_q rfl rfl rfl (q_assign rfl) ?_) | refine l_q rfl rfl rfl (by (exact q_not rfl)) ?_)) | refine d_seq ?_ | refine c_region ?_ | refine l_nil ?_ | (refine i_q ?_; (first | refine d_then ?_ | refine d_then_ret ?_)) | refine c_ret ?_ | (refine i_cond ?_; (refine c_ct rfl (by (rfl)) ?_))))
    exact t_hp (hp' := []) (fun w h => h.psub (by first | ((repeat (first | exact PSub.nil | exact Ext.head | apply Ext.tail | apply PSub.cons)); done) | fail)) (t_ret2 Try.results13 rfl rfl (.inl ⟨1, by omega, rfl, rfl⟩))
  | true =>
    (repeat (first | (refine i_dst ?_; (refine l_q rfl rfl rfl (by (exact q_not rfl)) ?_)) | refine d_seq ?_ | refine c_region ?_ | refine l_nil ?_ | (refine i_q ?_; (refine d_then ?_)) | refine c_skip ?_ | (refine i_cond ?_; (refine c_cf rfl (by (rfl)) ?_))))
    (refine l_call0 rfl rfl Try.func27 rfl (by decide) (fun w' h => spsmall_spec 18 [] none 0 0 w' (by omega) (uv_nil w')) (fun v B hv => ?_); obtain ⟨rfl, rfl⟩ := hv)
    (repeat ((refine i_dst ?_; (first | (refine i_move ?_; refine l_q rfl rfl rfl (q_move rfl) ?_) | (refine i_blt ?_; refine l_q rfl rfl rfl (by (exact q_len tab rfl rfl)) ?_) | (refine i_bldS ?_; refine l_bldS tab rfl rfl rfl rfl (by first | exact CellsOf.agg | exact CellsOf.one rfl) (by first | ((repeat (first | exact RepR.zero | exact AppR.nil | apply RepR.succ | apply AppR.cons)); done) | fail) (by first | ((repeat (first | exact FillR.nil | exact LSets.nil | exact LSet.zero | exact CellsOf.agg | exact rfl | exact CellsOf.one rfl | apply FillR.cons | apply LSets.cons | apply LSet.succ)); done) | fail) (fun w => by kernel_rfl) (fun _ => ?_)) | (refine l_q rfl rfl rfl (by ((apply iq_cv; (exact q_conv tab rfl rfl rfl (by (exact wr_u8 (by omega))))))) ?_)))))
    rename_i g1
    (refine l_call0 rfl rfl Try.func27 rfl (by decide) (fun w' h => spsmall_spec 19 [n] _ 1 1 w' (by omega) (uv_blk (h.mem (X := blk g1 (uv [n]) 5) (by first | ((repeat (first | exact List.Mem.head _ | apply List.Mem.tail)); done) | fail)))) (fun v B hv => ?_); obtain ⟨rfl, rfl⟩ := hv)
    simp only [cmdC]
    (repeat (first | (refine i_dst ?_; (first | (refine i_move ?_; refine l_q rfl rfl rfl (q_move rfl) ?_) | (refine i_blt ?_; refine l_q rfl rfl rfl (by (exact q_len tab rfl rfl)) ?_) | (refine i_alloc ?_; (refine l_alloc1 tab rfl rfl rfl (fun _ => ?_))) | (refine i_bldS ?_; refine l_bldS tab rfl rfl rfl rfl (by first | exact CellsOf.agg | exact CellsOf.one rfl) (by first | ((repeat (first | exact RepR.zero | exact AppR.nil | apply RepR.succ | apply AppR.cons)); done) | fail) (by first | ((repeat (first | exact FillR.nil | exact LSets.nil | exact LSet.zero | exact CellsOf.agg | exact rfl | exact CellsOf.one rfl | apply FillR.cons | apply LSets.cons | apply LSet.succ)); done) | fail) (fun w => by kernel_rfl) (fun _ => ?_)))) | refine d_seq ?_ | refine c_region ?_ | refine l_nil ?_ | refine c_block ?_ | (refine i_q ?_; (refine d_then ?_)) | (refine i_store ?_; ((refine l_set tab rfl rfl rfl rfl (by first | ((repeat (first | exact Upd.head | apply Upd.tail)); done) | fail) (by first | ((repeat (first | exact LSet.zero | apply LSet.succ)); done) | fail) ?_)))))
    rename_i g2 b4
    have hgx0 : GX n [smC 18 [], smC 19 [n]] := ⟨fun c hc => by
      rcases List.mem_cons.1 hc with rfl | hc
      · exact sm_ok (by omega) (fun x hx => by cases hx)
      · rw [List.mem_singleton.1 hc]; exact sm_ok (by omega) (fun x hx => by rw [List.mem_singleton.1 hx]; omega), [], rfl, fun c hc => by cases hc⟩
    refine d_loop (T := Nat × Value × List CmdV) [0, 4, 21, 22] (fun t => [(23, .int .i64 t.1)]) [] (fun t => outL b4 t.2.1 t.2.2) (fun t => t.1 ≤ n ∧ t.2.2.length ≤ 2 + t.1 ∧ GX n t.2.2) (fun t => n - t.1) (0, .slice (some ⟨g2, 0, none⟩) 2 2, [smC 18 [], smC 19 [n]]) (by first | ((repeat (first | exact Pick.nil | exact rfl | apply Pick.cons)); done) | fail) ⟨Nat.zero_le _, by simp, hgx0⟩ (by first | ((repeat (first | exact trivial | exact rfl | apply Sub.cons | exact look_int rfl (by omega) | exact look_int rfl (by simp) | exact look_int rfl (by simp; omega))); done) | fail) (fun w h => ?_) ?_
    · have h1 : St (fps []) _ [blk b4 [.slice (some ⟨g2, 0, none⟩) 2 2] 51, blk g2 ([smC 18 [], smC 19 [n]].flatMap cmdC) 59] w := h.psub (by first | ((repeat (first | exact PSub.nil | exact Ext.head | apply Ext.tail | apply PSub.cons)); done) | fail)
      exact h1.see (i := 1) rfl (fun h => row_of_blk h 8 2 2 (Nat.le_refl _) (by omega) rfl _ rfl) (fun b hb => row_blkS hb)
    rintro ⟨i, ov, cs⟩ ⟨hi, hc1, hg1⟩
    dsimp only at hi hc1 hg1 ⊢
    by_cases hlt : i < n
    · obtain ⟨l, hl⟩ : ∃ l, ls[i]? = some l := ⟨_, List.getElem?_eq_getElem (by omega)⟩
      obtain ⟨hs1, hs2⟩ := hsm l (List.mem_of_getElem? hl)
      obtain ⟨bL, oL, r, rfl, hrl, hL, hcell⟩ := hls.get (by omega) hl
      obtain ⟨⟨At, nt, ct, rfl, htabs, ht1, ht2⟩, -, -, -, -⟩ := hL
      have htl := htabs.len
      refine c_fact (p := ∃ Ao co, ov = .slice Ao cs.length co ∧ cs.length ≤ co ∧ co ≤ maxLen) (fun w h => out_v (F := []) h) ?_
      rintro ⟨Ao, co, rfl, ho1, ho2⟩
      refine c_hp (hp' := [blk b4 [.slice Ao cs.length co] 51, row 59 8 (.slice Ao cs.length co) cs.length (cs.flatMap cmdC)]) (fun w h => h) ?_
      (repeat (first | (refine i_dst ?_; (first | (refine i_move ?_; refine l_q rfl rfl rfl (q_move rfl) ?_) | (refine i_assign ?_; refine l_q rfl rfl rfl (q_assign rfl) ?_) | (refine i_load ?_; refine l_q rfl rfl rfl (by (exact q_ldcN tab rfl rfl rfl rfl (by assumption) rfl)) ?_) | (refine i_bin ?_; refine l_q rfl rfl rfl (by (exact q_lss rfl rfl)) ?_) | (refine i_ix ?_; refine l_q rfl rfl rfl (by (exact q_indexAddr tab rfl rfl rfl rfl (by omega))) ?_) | (refine i_alloc ?_; (refine l_allocA tab rfl rfl (fun _ => ?_))))) | refine d_seq ?_ | refine c_region ?_ | refine l_nil ?_ | refine c_block ?_ | (refine i_q ?_; (refine d_then ?_)) | refine c_skip ?_ | (refine i_store ?_; ((refine l_setN tab rfl rfl rfl rfl (List.cons_ne_nil _ _) rfl (by first | ((repeat (first | exact Upd.head | apply Upd.tail)); done) | fail) (by first | ((repeat (first | exact LSets.nil | exact LSet.zero | apply LSets.cons | apply LSet.succ)); done) | fail) ?_))) | (refine i_cond ?_; (refine c_ct rfl (by (exact decide_eq_true (by omega))) ?_))))
      rename_i b6
      (refine a_beginE mixed [blk b6 [.int .i64 l.first, .slice At nt ct, .bool l.stim, .int .u8 l.ev, .int .u8 l.pre, .int .u8 l.pri, .bool l.on, .bool l.ch] 27, blk b4 [.slice Ao cs.length co] 51] [blk b6 [.int .i64 l.first, .slice At nt ct, .bool l.stim, .int .u8 l.ev, .int .u8 l.pre, .int .u8 l.pri, .bool l.on, .bool l.ch] 27] 12 11 rfl (fun w h => h.subl (by first | ((repeat (first | exact SubL.nil | apply SubL.keep | apply SubL.skip)); done) | fail)) (fun w h => h.subl (by first | ((repeat (first | exact SubL.nil | apply SubL.keep | apply SubL.skip)); done) | fail)) ?_)
      ((((refine a_y 0 rfl rfl rfl rfl rfl (by decide +kernel) (by ((exact q_ld1 tab rfl rfl rfl (by first | ((repeat (first | exact List.Mem.head _ | apply List.Mem.tail)); done) | fail) (by (rfl))))) ?_)); refine a_q 1 rfl rfl rfl rfl rfl (by decide +kernel) (q_move rfl) ?_; refine a_q 2 rfl rfl rfl rfl rfl (by decide +kernel) (by ((apply iq_cv; (exact q_conv tab rfl rfl rfl (by (exact wr_u8 (by omega))))))) ?_; refine a_q 3 rfl rfl rfl rfl rfl (by decide +kernel) (by ((apply iq_fld; (exact q_fieldAddr tab rfl rfl rfl rfl rfl rfl rfl)))) ?_; ((refine a_q 4 rfl rfl rfl rfl rfl (by decide +kernel) (by ((exact q_ld1 tab rfl rfl rfl (by first | ((repeat (first | exact List.Mem.head _ | apply List.Mem.tail)); done) | fail) (by (rfl))))) ?_)); refine a_q 5 rfl rfl rfl rfl rfl (by decide +kernel) (by (exact q_len tab rfl rfl)) ?_; refine a_q 6 rfl rfl rfl rfl rfl (by decide +kernel) (by ((apply iq_cv; (exact q_conv tab rfl rfl rfl (by (exact wr_u8 (by omega))))))) ?_))
      (refine a_e 7 rfl (by decide +kernel) rfl (fun K hK => e_bldS tab rfl rfl rfl rfl (by first | exact CellsOf.agg | exact CellsOf.one rfl) (by first | ((repeat (first | exact RepR.zero | exact AppR.nil | apply RepR.succ | apply AppR.cons)); done) | fail) (by first | ((repeat (first | exact FillR.nil | exact LSets.nil | exact LSet.zero | exact CellsOf.agg | exact rfl | exact CellsOf.one rfl | apply FillR.cons | apply LSets.cons | apply LSet.succ)); done) | fail) (fun w => by kernel_rfl) (fun g3 => hK _ _ (fun w h => h.subl (by first | ((repeat (first | exact SubL.nil | apply SubL.keep | apply SubL.skip)); done) | fail)) ?_)); clear hK)
      (skip)
      (refine a_e 8 rfl (by decide +kernel) rfl (fun K hK => e_call0 rfl rfl Try.func27 rfl (by decide) (fun w' h => spsmall_spec 20 [i, nt] _ 2 2 w' (by omega) (uv_blk (h.mem (X := blk g3 (uv [i, nt]) 5) (by first | ((repeat (first | exact List.Mem.head _ | apply List.Mem.tail)); done) | fail)))) (fun v B hv => ?_)); obtain ⟨rfl, rfl⟩ := hv; refine hK _ _ (fun w h => h.subl (by first | ((repeat (first | exact SubL.nil | apply SubL.keep | apply SubL.skip)); done) | fail)) ?_; clear hK)
      (skip)
      simp only [cmdC]
      (refine a_e 9 rfl (by decide +kernel) rfl (fun K hK => e_bldS tab rfl rfl rfl rfl (by first | exact CellsOf.agg | exact CellsOf.one rfl) (by first | ((repeat (first | exact RepR.zero | exact AppR.nil | apply RepR.succ | apply AppR.cons)); done) | fail) (by first | ((repeat (first | exact FillR.nil | exact LSets.nil | exact LSet.zero | exact CellsOf.agg | exact rfl | exact CellsOf.one rfl | apply FillR.cons | apply LSets.cons | apply LSet.succ)); done) | fail) (fun w => by kernel_rfl) (fun g4 => hK _ _ (fun w h => h.subl (by first | ((repeat (first | exact SubL.nil | apply SubL.keep | apply SubL.skip)); done) | fail)) ?_)); clear hK)
      (skip)
      (refine a_e 10 rfl (by decide +kernel) rfl (fun K hK => e_app tab rfl rfl rfl rowCC (by first | ((repeat (first | exact Ext.head | apply Ext.tail)); done) | fail) (news := cmdC (smC 20 [i, nt])) (fun w h => SrcAt.blk (h.mem (by first | ((repeat (first | exact List.Mem.head _ | apply List.Mem.tail)); done) | fail)) rfl) (by simp [cmdC, Value.oneCell']) (by omega) (by omega) (fun A4 c4 hA1 hA2 => hK _ _ (fun w h => h.subl (by first | ((repeat (first | exact SubL.nil | apply SubL.keep | apply SubL.skip)); done) | fail)) ?_)); clear hK)
      (skip)
      (refine a_e 11 rfl (by decide +kernel) rfl (fun K hK => e_set tab rfl rfl rfl rfl (by first | ((repeat (first | exact Upd.head | apply Upd.tail)); done) | fail) (by first | ((repeat (first | exact LSet.zero | apply LSet.succ)); done) | fail) (hK _ _ (fun w h => h.subl (by first | ((repeat (first | exact SubL.nil | apply SubL.keep | apply SubL.skip)); done) | fail)) ?_)); clear hK)
      refine a_done (by decide +kernel) ?_
      refine t_hp (hp' := outL b4 (.slice A4 (cs.length + 1) c4) (cs ++ [smC 20 [i, nt]])) (fun w h => out_mk (F := []) rfl rfl (h.psub (by first | ((repeat (first | exact PSub.nil | exact Ext.head | apply Ext.tail | apply PSub.cons)); done) | fail))) ?_
      (repeat (first | (refine i_dst ?_; (first | (refine i_move ?_; refine l_q rfl rfl rfl (q_move rfl) ?_) | (refine i_bin ?_; refine l_q rfl rfl rfl (by (exact q_add rfl rfl (by (exact wr_i64 (by omega))))) ?_))) | refine c_region ?_ | refine l_nil ?_ | (refine i_q ?_; (first | refine d_then ?_ | refine t_then ?_ | refine t_block ?_))))
      exact k_again (i + 1, .slice A4 (cs.length + 1) c4, cs ++ [smC 20 [i, nt]]) ⟨by dsimp only; omega, by simp; omega, gx_add hg1 (sm_ok (by omega) (fun x hx => by simp at hx; omega)) ⟨Nat.le_refl _, by simp [smC]⟩⟩ (by dsimp only; omega) (by first | ((repeat (first | exact trivial | exact rfl | apply Sub.cons | exact look_int rfl (by omega) | exact look_int rfl (by simp) | exact look_int rfl (by simp; omega))); done) | fail) (fun w h => by simpa using h)
    · have hin : i = n := by omega
      subst hin
      (repeat (first | (refine i_dst ?_; (first | (refine i_move ?_; refine l_q rfl rfl rfl (q_move rfl) ?_) | (refine i_bin ?_; refine l_q rfl rfl rfl (by (exact q_lss rfl rfl)) ?_) | refine l_q rfl rfl rfl (by (exact q_mkfunc rfl)) ?_)) | refine d_seq ?_ | refine c_region ?_ | refine l_nil ?_ | (refine i_q ?_; (first | refine d_then ?_ | refine d_then_exit ?_ | refine t_then_exit ?_ | refine t_block_eq rfl ?_)) | refine c_exit ?_ | (refine i_cond ?_; ((refine c_cf rfl (by (((first | (simp; done) | fail)))) ?_)))))
      refine l_op rfl (fun K hK => e_call (A := outL b4 ov cs) (F := []) rfl rfl Try.func28 rfl (by decide) (fun w h => h) (fun w' h => speach_spec (G := GX i) Try.func29 rfl (by decide) h.split (fun i k A ne ce t cs ov w hi hk hA hE hne hcs hg => splay1_spec (fun cs c hg hc hk => gx_add hg hc (by omega)) hA i k ne ce A hi hk hne hcs hg) (hls.to (fun r hr => h.roOf hr (fun X hX => List.mem_append_left _ hX)) (fun _ _ hx => hx.to (fun r hr => h.roOf hr (fun X hX => List.mem_append_left _ hX)))) hn4 hsm (by omega) hg1) (fun v B hv => hK _ _ ?_))
      clear hK
      obtain ⟨ov1, cs1, rfl, hc2, hg2⟩ := hv
      (repeat (first | (refine i_dst ?_; (first | (refine i_move ?_; refine l_q rfl rfl rfl (q_move rfl) ?_) | refine l_q rfl rfl rfl (by (exact q_mkfunc rfl)) ?_)) | refine d_seq ?_ | refine c_region ?_ | refine l_nil ?_ | (refine i_q ?_; (refine d_then ?_))))
      refine l_op rfl (fun K hK => e_call (A := outL b4 ov1 cs1) (F := []) rfl rfl Try.func28 rfl (by decide) (fun w h => h) (fun w' h => speach_spec (G := GX i) Try.func30 rfl (by decide) h.split (fun i k A ne ce t cs ov w hi hk hA hE hne hcs hg => splay2_spec (fun cs c hg hc hk => gx_add hg hc (by omega)) hA i k ne ce A t hE hi hk hne hcs hg) (hls.to (fun r hr => h.roOf hr (fun X hX => List.mem_append_left _ hX)) (fun _ _ hx => hx.to (fun r hr => h.roOf hr (fun X hX => List.mem_append_left _ hX)))) hn4 hsm (by omega) hg2) (fun v B hv => hK _ _ ?_))
      clear hK
      obtain ⟨ov2, cs2, rfl, hc3, hg3⟩ := hv
      obtain ⟨hok2, X, hX, hXk⟩ := hg3
      (repeat (first | (refine i_dst ?_; (first | (refine i_move ?_; refine l_q rfl rfl rfl (q_move rfl) ?_) | (refine i_assign ?_; refine l_q rfl rfl rfl (q_assign rfl) ?_) | (refine i_blt ?_; refine l_q rfl rfl rfl (by (exact q_len tab rfl rfl)) ?_))) | refine d_seq ?_ | refine c_region ?_ | refine l_nil ?_ | refine c_block ?_ | (refine i_q ?_; (refine d_then ?_))))
      refine d_loop (T := Nat × (Value × List CmdV) × (Value × List CmdV)) [4, 46, 47] (fun t => [(48, .int .i64 t.1), (7, t.2.2.1)]) [] (fun t => [blk b4 [t.2.1.1] 51, rowCm t.2.1.1 (cs2 ++ t.2.1.2), rowCm t.2.2.1 t.2.2.2])
        (fun t => t.1 ≤ i ∧ t.2.1.2.length = t.1 ∧ t.2.2.2.length = t.1 ∧ Byi 24 1 t.2.1.2 ∧ Byi 25 2 t.2.2.2 ∧ (∀ c ∈ cs2 ++ t.2.1.2, c.Ok) ∧ ∀ c ∈ t.2.2.2, c.Ok) (fun t => i - t.1) (0, (ov2, []), (.slice none 0 0, [])) (by first | ((repeat (first | exact Pick.nil | exact rfl | apply Pick.cons)); done) | fail) ⟨Nat.zero_le _, rfl, rfl, byi_nil _ _, byi_nil _ _, by simpa using hok2, fun c hc => by cases hc⟩ (by first | ((repeat (first | exact trivial | exact rfl | apply Sub.cons | exact look_int rfl (by omega) | exact look_int rfl (by simp) | exact look_int rfl (by simp; omega))); done) | fail) (fun w h => ?_) ?_
      · have h1 := st_nil h 59 8
        simp only [List.append_nil]
        exact h1.psub (hp' := [blk b4 [ov2] 51, rowCm ov2 cs2, rowCm (.slice none 0 0) []]) (by first | ((repeat (first | exact PSub.nil | exact Ext.head | apply Ext.tail | apply PSub.cons)); done) | fail)
      rintro ⟨j, ⟨ov3, Y⟩, ⟨cv, Z⟩⟩ ⟨hj, hYl, hZl, hY, hZ, hok3, hokZ⟩
      dsimp only at hj hYl hZl hY hZ hok3 hokZ ⊢
      refine c_fact (p := (∃ Ao co, ov3 = .slice Ao (cs2 ++ Y).length co ∧ (cs2 ++ Y).length ≤ co ∧ co ≤ maxLen) ∧ ∃ Ac cc, cv = .slice Ac Z.length cc ∧ Z.length ≤ cc ∧ cc ≤ maxLen) (fun w h => ?_) ?_
      · obtain ⟨Ao, co, e1, e2, e3, -⟩ := row_slice (h.get (i := 1) rfl)
        obtain ⟨Ac, cc, e4, e5, e6, -⟩ := row_slice (h.get (i := 2) rfl)
        exact ⟨⟨Ao, co, e1, e2, e3⟩, ⟨Ac, cc, e4, e5, e6⟩⟩
      rintro ⟨⟨Ao, co, rfl, ho1, ho2⟩, ⟨Ac, cc, rfl, hq1, hq2⟩⟩
      have hcy : (cs2 ++ Y).length ≤ 300 := by rw [List.length_append]; omega
      generalize hcs3 : cs2 ++ Y = cs3 at *
      refine c_hp (hp' := [blk b4 [.slice Ao cs3.length co] 51, row 59 8 (.slice Ao cs3.length co) cs3.length (cs3.flatMap cmdC), row 59 8 (.slice Ac Z.length cc) Z.length (Z.flatMap cmdC)]) (fun w h => h) ?_
      by_cases hlt2 : j < i
      · obtain ⟨l, hl⟩ : ∃ l, ls[j]? = some l := ⟨_, List.getElem?_eq_getElem (by omega)⟩
        obtain ⟨hst, hch1⟩ := hch l (List.mem_of_getElem? hl)
        obtain ⟨bL, oL, r, rfl, hrl, hL, hcell⟩ := hls.get (by omega) hl
        obtain ⟨⟨At, nt, ct, rfl, htabs, ht1, ht2⟩, -, hev, hpre, hpri⟩ := hL
        rw [hst, hch1] at hcell
        (repeat (first | (refine i_dst ?_; (first | (refine i_move ?_; refine l_q rfl rfl rfl (q_move rfl) ?_) | (refine i_assign ?_; refine l_q rfl rfl rfl (q_assign rfl) ?_) | (refine i_load ?_; refine l_q rfl rfl rfl (by (first | (exact q_ld1 tab rfl rfl rfl (by first | ((repeat (first | exact List.Mem.head _ | apply List.Mem.tail)); done) | fail) (by (rfl))) | exact q_ldcN tab rfl rfl rfl rfl (by assumption) rfl)) ?_) | (refine i_bin ?_; refine l_q rfl rfl rfl (by (exact q_lss rfl rfl)) ?_) | (refine i_ix ?_; refine l_q rfl rfl rfl (by (exact q_indexAddr tab rfl rfl rfl rfl (by omega))) ?_) | (refine i_alloc ?_; (refine l_allocA tab rfl rfl (fun _ => ?_))) | (refine l_q rfl rfl rfl (by ((apply iq_fld; (exact q_fieldAddr tab rfl rfl rfl rfl rfl rfl rfl)))) ?_))) | refine d_seq ?_ | refine c_region ?_ | refine l_nil ?_ | refine c_block ?_ | (refine i_q ?_; (refine d_then ?_)) | refine c_skip ?_ | (refine i_store ?_; ((refine l_setN tab rfl rfl rfl rfl (List.cons_ne_nil _ _) rfl (by first | ((repeat (first | exact Upd.head | apply Upd.tail)); done) | fail) (by first | ((repeat (first | exact LSets.nil | exact LSet.zero | apply LSets.cons | apply LSet.succ)); done) | fail) ?_))) | (refine i_cond ?_; (refine c_ct rfl (by (first | rfl | exact decide_eq_true (by omega))) ?_))))
        rename_i b9
        (refine a_beginE mixed [blk b9 [.int .i64 l.first, .slice At nt ct, .bool true, .int .u8 l.ev, .int .u8 l.pre, .int .u8 l.pri, .bool l.on, .bool true] 27, blk b4 [.slice Ao cs3.length co] 51] [blk b9 [.int .i64 l.first, .slice At nt ct, .bool true, .int .u8 l.ev, .int .u8 l.pre, .int .u8 l.pri, .bool l.on, .bool true] 27] 15 14 rfl (fun w h => h.subl (by first | ((repeat (first | exact SubL.nil | apply SubL.keep | apply SubL.skip)); done) | fail)) (fun w h => h.subl (by first | ((repeat (first | exact SubL.nil | apply SubL.keep | apply SubL.skip)); done) | fail)) ?_)
        ((((refine a_y 0 rfl rfl rfl rfl rfl (by decide +kernel) (by ((exact q_ld1 tab rfl rfl rfl (by first | ((repeat (first | exact List.Mem.head _ | apply List.Mem.tail)); done) | fail) (by (rfl))))) ?_)); refine a_q 1 rfl rfl rfl rfl rfl (by decide +kernel) (q_move rfl) ?_; refine a_q 2 rfl rfl rfl rfl rfl (by decide +kernel) (by ((apply iq_cv; (exact q_conv tab rfl rfl rfl (by (exact wr_u8 (by omega))))))) ?_; refine a_q 3 rfl rfl rfl rfl rfl (by decide +kernel) (q_move rfl) ?_; refine a_q 4 rfl rfl rfl rfl rfl (by decide +kernel) (by ((apply iq_fld; (exact q_fieldAddr tab rfl rfl rfl rfl rfl rfl rfl)))) ?_; ((refine a_q 5 rfl rfl rfl rfl rfl (by decide +kernel) (by ((exact q_ld1 tab rfl rfl rfl (by first | ((repeat (first | exact List.Mem.head _ | apply List.Mem.tail)); done) | fail) (by (rfl))))) ?_)); refine a_q 6 rfl rfl rfl rfl rfl (by decide +kernel) (by ((apply iq_fld; (exact q_fieldAddr tab rfl rfl rfl rfl rfl rfl rfl)))) ?_; ((refine a_q 7 rfl rfl rfl rfl rfl (by decide +kernel) (by ((exact q_ld1 tab rfl rfl rfl (by first | ((repeat (first | exact List.Mem.head _ | apply List.Mem.tail)); done) | fail) (by (rfl))))) ?_)); refine a_q 8 rfl rfl rfl rfl rfl (by decide +kernel) (by ((apply iq_fld; (exact q_fieldAddr tab rfl rfl rfl rfl rfl rfl rfl)))) ?_; ((refine a_q 9 rfl rfl rfl rfl rfl (by decide +kernel) (by ((exact q_ld1 tab rfl rfl rfl (by first | ((repeat (first | exact List.Mem.head _ | apply List.Mem.tail)); done) | fail) (by (rfl))))) ?_))))
        (refine a_e 10 rfl (by decide +kernel) rfl (fun K hK => e_bldS tab rfl rfl rfl rfl (by first | exact CellsOf.agg | exact CellsOf.one rfl) (by first | ((repeat (first | exact RepR.zero | exact AppR.nil | apply RepR.succ | apply AppR.cons)); done) | fail) (by first | ((repeat (first | exact FillR.nil | exact LSets.nil | exact LSet.zero | exact CellsOf.agg | exact rfl | exact CellsOf.one rfl | apply FillR.cons | apply LSets.cons | apply LSet.succ)); done) | fail) (fun w => by kernel_rfl) (fun g3 => hK _ _ (fun w h => h.subl (by first | ((repeat (first | exact SubL.nil | apply SubL.keep | apply SubL.skip)); done) | fail)) ?_)); clear hK)
        (skip)
        (refine a_e 11 rfl (by decide +kernel) rfl (fun K hK => e_call0 rfl rfl Try.func27 rfl (by decide) (fun w' h => spsmall_spec 24 [j, 1, l.ev, l.pre, l.pri] _ 5 5 w' (by omega) (uv_blk (h.mem (X := blk g3 (uv [j, 1, l.ev, l.pre, l.pri]) 5) (by first | ((repeat (first | exact List.Mem.head _ | apply List.Mem.tail)); done) | fail)))) (fun v B hv => ?_)); obtain ⟨rfl, rfl⟩ := hv; refine hK _ _ (fun w h => h.subl (by first | ((repeat (first | exact SubL.nil | apply SubL.keep | apply SubL.skip)); done) | fail)) ?_; clear hK)
        (skip)
        simp only [cmdC]
        (refine a_e 12 rfl (by decide +kernel) rfl (fun K hK => e_bldS tab rfl rfl rfl rfl (by first | exact CellsOf.agg | exact CellsOf.one rfl) (by first | ((repeat (first | exact RepR.zero | exact AppR.nil | apply RepR.succ | apply AppR.cons)); done) | fail) (by first | ((repeat (first | exact FillR.nil | exact LSets.nil | exact LSet.zero | exact CellsOf.agg | exact rfl | exact CellsOf.one rfl | apply FillR.cons | apply LSets.cons | apply LSet.succ)); done) | fail) (fun w => by kernel_rfl) (fun g4 => hK _ _ (fun w h => h.subl (by first | ((repeat (first | exact SubL.nil | apply SubL.keep | apply SubL.skip)); done) | fail)) ?_)); clear hK)
        (skip)
        (refine a_e 13 rfl (by decide +kernel) rfl (fun K hK => e_app tab rfl rfl rfl rowCC (by first | ((repeat (first | exact Ext.head | apply Ext.tail)); done) | fail) (news := cmdC (smC 24 [j, 1, l.ev, l.pre, l.pri])) (fun w h => SrcAt.blk (h.mem (by first | ((repeat (first | exact List.Mem.head _ | apply List.Mem.tail)); done) | fail)) rfl) (by simp [cmdC, Value.oneCell']) (by omega) (by omega) (fun A4 c4 hA1 hA2 => hK _ _ (fun w h => h.subl (by first | ((repeat (first | exact SubL.nil | apply SubL.keep | apply SubL.skip)); done) | fail)) ?_)); clear hK)
        (skip)
        (refine a_e 14 rfl (by decide +kernel) rfl (fun K hK => e_set tab rfl rfl rfl rfl (by first | ((repeat (first | exact Upd.head | apply Upd.tail)); done) | fail) (by first | ((repeat (first | exact LSet.zero | apply LSet.succ)); done) | fail) (hK _ _ (fun w h => h.subl (by first | ((repeat (first | exact SubL.nil | apply SubL.keep | apply SubL.skip)); done) | fail)) ?_)); clear hK)
        refine a_done (by decide +kernel) ?_
        (repeat (first | (refine i_dst ?_; (first | (refine i_move ?_; refine l_q rfl rfl rfl (q_move rfl) ?_) | (refine i_load ?_; refine l_q rfl rfl rfl (by ((exact q_ld1 tab rfl rfl rfl (by first | ((repeat (first | exact List.Mem.head _ | apply List.Mem.tail)); done) | fail) (by (rfl))))) ?_) | (refine i_bldS ?_; refine l_bldS tab rfl rfl rfl rfl (by first | exact CellsOf.agg | exact CellsOf.one rfl) (by first | ((repeat (first | exact RepR.zero | exact AppR.nil | apply RepR.succ | apply AppR.cons)); done) | fail) (by first | ((repeat (first | exact FillR.nil | exact LSets.nil | exact LSet.zero | exact CellsOf.agg | exact rfl | exact CellsOf.one rfl | apply FillR.cons | apply LSets.cons | apply LSet.succ)); done) | fail) (fun w => by kernel_rfl) (fun _ => ?_)) | (refine l_q rfl rfl rfl (by (first | (apply iq_fld; (exact q_fieldAddr tab rfl rfl rfl rfl rfl rfl rfl)) | (apply iq_cv; (exact q_conv tab rfl rfl rfl (by (exact wr_u8 (by omega))))))) ?_))) | refine d_seq ?_ | refine c_region ?_ | refine l_nil ?_ | (refine i_q ?_; (refine d_then ?_)) | (refine i_cond ?_; (refine c_ct rfl (by (rfl)) ?_))))
        rename_i g5
        (refine l_call0 rfl rfl Try.func27 rfl (by decide) (fun w' h => spsmall_spec 25 [j, 2] _ 2 2 w' (by omega) (uv_blk (h.mem (X := blk g5 (uv [j, 2]) 5) (by first | ((repeat (first | exact List.Mem.head _ | apply List.Mem.tail)); done) | fail)))) (fun v B hv => ?_); obtain ⟨rfl, rfl⟩ := hv)
        simp only [cmdC]
        (repeat ((refine i_dst ?_; ((refine i_bldS ?_; refine l_bldS tab rfl rfl rfl rfl (by first | exact CellsOf.agg | exact CellsOf.one rfl) (by first | ((repeat (first | exact RepR.zero | exact AppR.nil | apply RepR.succ | apply AppR.cons)); done) | fail) (by first | ((repeat (first | exact FillR.nil | exact LSets.nil | exact LSet.zero | exact CellsOf.agg | exact rfl | exact CellsOf.one rfl | apply FillR.cons | apply LSets.cons | apply LSet.succ)); done) | fail) (fun w => by kernel_rfl) (fun _ => ?_))))))
        (refine l_app tab rfl rfl rfl rowCC (by first | ((repeat (first | exact Ext.head | apply Ext.tail)); done) | fail) (news := cmdC (smC 25 [j, 2])) (fun w h => SrcAt.blk (h.mem (by first | ((repeat (first | exact List.Mem.head _ | apply List.Mem.tail)); done) | fail)) rfl) (by simp [cmdC, Value.oneCell']) (by omega) (by omega) (fun A5 c5 hA1 hA2 => ?_))
        (repeat (first | (refine i_dst ?_; (first | (refine i_move ?_; refine l_q rfl rfl rfl (q_move rfl) ?_) | (refine i_assign ?_; refine l_q rfl rfl rfl (q_assign rfl) ?_) | (refine i_bin ?_; refine l_q rfl rfl rfl (by (exact q_add rfl rfl (by (exact wr_i64 (by omega))))) ?_))) | refine c_region ?_ | refine l_nil ?_ | (refine i_q ?_; (first | refine d_then ?_ | refine t_then ?_ | refine t_block ?_))))
        have hokm : (smC 24 [j, 1, l.ev, l.pre, l.pri]).Ok := sm_ok (by omega) (fun x hx => by simp at hx; omega)
        have hoks : (smC 25 [j, 2]).Ok := sm_ok (by omega) (fun x hx => by simp at hx; omega)
        refine k_again (j + 1, (.slice A4 (cs3.length + 1) c4, Y ++ [smC 24 [j, 1, l.ev, l.pre, l.pri]]), (.slice A5 (Z.length + 1) c5, Z ++ [smC 25 [j, 2]])) ⟨by dsimp only; omega, by simp; omega, by simp; omega, byi_add hY rfl (by rw [hYl]; rfl) rfl, byi_add hZ rfl (by rw [hZl]; rfl) rfl, ?_, all_add hokZ hoks⟩ (by dsimp only; omega) (by first | ((repeat (first | exact trivial | exact rfl | apply Sub.cons | exact look_int rfl (by omega) | exact look_int rfl (by simp) | exact look_int rfl (by simp; omega))); done) | fail) (fun w h => ?_)
        · dsimp only
          rw [← List.append_assoc, hcs3]
          exact all_add hok3 hokm
        · dsimp only
          rw [← List.append_assoc, hcs3, rowCm_snoc, rowCm_snoc]
          exact h.psub (by first | ((repeat (first | exact PSub.nil | exact Ext.head | apply Ext.tail | apply PSub.cons)); done) | fail)
      · have hji : j = i := by omega
        subst hji
        (repeat (first | (refine i_dst ?_; (first | (refine i_move ?_; refine l_q rfl rfl rfl (q_move rfl) ?_) | (refine i_load ?_; refine l_q rfl rfl rfl (by ((exact q_ld1 tab rfl rfl rfl (by first | ((repeat (first | exact List.Mem.head _ | apply List.Mem.tail)); done) | fail) (by (rfl))))) ?_) | (refine i_bin ?_; refine l_q rfl rfl rfl (by (exact q_lss rfl rfl)) ?_))) | refine d_seq ?_ | refine c_region ?_ | refine l_nil ?_ | (refine i_q ?_; (first | refine d_then ?_ | refine d_then_exit ?_ | refine t_then_exit ?_ | refine t_block_eq rfl ?_)) | refine c_exit ?_ | (refine i_cond ?_; ((refine c_cf rfl (by (((first | (simp; done) | fail)))) ?_)))))
        (refine l_app tab rfl rfl rfl rowCC (by first | ((repeat (first | exact Ext.head | apply Ext.tail)); done) | fail) (news := Z.flatMap cmdC) (fun w h => row_src (h.mem (by first | ((repeat (first | exact List.Mem.head _ | apply List.Mem.tail)); done) | fail))) (cmds_one Z) (by omega) (by omega) (fun A6 c6 hA1 hA2 => ?_))
        (repeat ((refine i_dst ?_; ((refine i_bldS ?_; refine l_bldS tab rfl rfl rfl rfl (by first | exact CellsOf.agg | exact CellsOf.one rfl) (by first | ((repeat (first | exact RepR.zero | exact AppR.nil | apply RepR.succ | apply AppR.cons)); done) | fail) (by first | ((repeat (first | exact FillR.nil | exact LSets.nil | exact LSet.zero | exact CellsOf.agg | exact rfl | exact CellsOf.one rfl | apply FillR.cons | apply LSets.cons | apply LSet.succ)); done) | fail) (fun w => by kernel_rfl) (fun _ => ?_))))))
        rename_i g6
        (refine l_call0 rfl rfl Try.func27 rfl (by decide) (fun w' h => spsmall_spec 26 [1] _ 1 1 w' (by omega) (uv_blk (h.mem (X := blk g6 (uv [1]) 5) (by first | ((repeat (first | exact List.Mem.head _ | apply List.Mem.tail)); done) | fail)))) (fun v B hv => ?_); obtain ⟨rfl, rfl⟩ := hv)
        simp only [cmdC]
        (repeat ((refine i_dst ?_; ((refine i_bldS ?_; refine l_bldS tab rfl rfl rfl rfl (by first | exact CellsOf.agg | exact CellsOf.one rfl) (by first | ((repeat (first | exact RepR.zero | exact AppR.nil | apply RepR.succ | apply AppR.cons)); done) | fail) (by first | ((repeat (first | exact FillR.nil | exact LSets.nil | exact LSet.zero | exact CellsOf.agg | exact rfl | exact CellsOf.one rfl | apply FillR.cons | apply LSets.cons | apply LSet.succ)); done) | fail) (fun w => by kernel_rfl) (fun _ => ?_))))))
        (refine l_app tab rfl rfl rfl rowCC (by first | ((repeat (first | exact Ext.head | apply Ext.tail)); done) | fail) (news := cmdC (smC 26 [1])) (fun w h => SrcAt.blk (h.mem (by first | ((repeat (first | exact List.Mem.head _ | apply List.Mem.tail)); done) | fail)) rfl) (by simp [cmdC, Value.oneCell']) (by omega) (by omega) (fun A7 c7 hA1 hA2 => ?_))
        by_cases h64 : cs3.length + Z.length + 1 ≤ 64
        · (repeat (first | (refine i_dst ?_; (first | (refine i_assign ?_; refine l_q rfl rfl rfl (q_assign rfl) ?_) | (refine i_load ?_; refine l_q rfl rfl rfl (by ((exact q_ld1 tab rfl rfl rfl (by first | ((repeat (first | exact List.Mem.head _ | apply List.Mem.tail)); done) | fail) (by (rfl))))) ?_) | (refine i_bin ?_; refine l_q rfl rfl rfl (by (exact q_gtr rfl rfl)) ?_) | (refine i_blt ?_; refine l_q rfl rfl rfl (by (exact q_len tab rfl rfl)) ?_))) | refine d_seq ?_ | refine c_region ?_ | refine l_nil ?_ | (refine i_q ?_; (refine d_then ?_)) | refine c_skip ?_ | refine c_ret ?_ | (refine i_store ?_; ((refine l_set tab rfl rfl rfl rfl (by first | ((repeat (first | exact Upd.head | apply Upd.tail)); done) | fail) (by first | ((repeat (first | exact LSet.zero | apply LSet.succ)); done) | fail) ?_))) | (refine i_cond ?_; (refine c_cf rfl (by (exact decide_eq_false (by omega))) ?_))))
          refine t_hp (hp' := [rowCm (.slice A7 (cs3.length + Z.length + 1) c7) ((cs3 ++ Z) ++ [smC 26 [1]])]) (fun w h => ?_) (t_ret2 Try.results13 rfl rfl (.inr ⟨A7, c7, (cs3 ++ Z) ++ [smC 26 [1]], ?_, ?_, ⟨?_, smC 18 [], smC 19 [j], X, Y, Z, smC 26 [1], ?_, rfl, ⟨rfl, rfl⟩, hXk, hYl, hY, hZl, hZ, rfl, rfl⟩, ?_⟩))
          · rw [rowCm_snoc, List.flatMap_append, List.length_append]
            exact h.psub (by first | ((repeat (first | exact PSub.nil | exact Ext.head | apply Ext.tail | apply PSub.cons)); done) | fail)
          · simp [Nat.add_assoc]
          · simp [Nat.add_assoc]
          · intro c hc
            rcases List.mem_append.1 hc with hc | hc
            · rcases List.mem_append.1 hc with hc | hc
              · exact hok3 c hc
              · exact hokZ c hc
            · rw [List.mem_singleton.1 hc]
              exact sm_ok (by omega) (fun x hx => by simp at hx; omega)
          · rw [← hcs3, hX]
          · simp
            omega
        · (repeat (first | (refine i_dst ?_; (first | (refine i_assign ?_; refine l_q rfl rfl rfl (q_assign rfl) ?_) | (refine i_load ?_; refine l_q rfl rfl rfl (by ((exact q_ld1 tab rfl rfl rfl (by first | ((repeat (first | exact List.Mem.head _ | apply List.Mem.tail)); done) | fail) (by (rfl))))) ?_) | (refine i_bin ?_; refine l_q rfl rfl rfl (by (exact q_gtr rfl rfl)) ?_) | (refine i_blt ?_; refine l_q rfl rfl rfl (by (exact q_len tab rfl rfl)) ?_))) | refine d_seq ?_ | refine c_region ?_ | refine l_nil ?_ | (refine i_q ?_; (first | refine d_then ?_ | refine d_then_ret ?_)) | refine c_ret ?_ | (refine i_store ?_; ((refine l_set tab rfl rfl rfl rfl (by first | ((repeat (first | exact Upd.head | apply Upd.tail)); done) | fail) (by first | ((repeat (first | exact LSet.zero | apply LSet.succ)); done) | fail) ?_))) | (refine i_cond ?_; (refine c_ct rfl (by (exact decide_eq_true (by omega))) ?_))))
          exact t_hp (hp' := []) (fun w h => h.psub (by first | ((repeat (first | exact PSub.nil | exact Ext.head | apply Ext.tail | apply PSub.cons)); done) | fail)) (t_ret2 Try.results13 rfl rfl (.inl ⟨3, by omega, rfl, rfl⟩))
end Go.Proofs.Ytboccjdncdaakaa

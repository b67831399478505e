/-
  Layer 12: Sample, walked.
-/
import Derived.Test.YtkeekkdaielipaaS7
set_option linter.unusedVariables false
set_option maxRecDepth 100000
namespace Go.Proofs.Ytkeekkdaielipaa
open Go.RowKit
attribute [local irreducible] TL TC TQ TK TO Qt TA

/-- An answer of bytes that were measured. -/
structure RepV where
  code : Int
  v : Value
  b : List Int
def repCells (x : RepV) : List Value := [.int .u8 4, .int .u8 x.code, x.v]
def repB (x : RepV) : Asn := bytesA x.v x.b
/-- What an entry is. -/
def entM (M : Mm) (e : EntryI) : List Int := if (readM M 1 e.area e.at_ e.size).2 = 0 then (readM M 1 e.area e.at_ e.size).1 else List.replicate e.size 0
def tabM' (M : Mm) (t : List EntryI) : List Int := t.flatMap (entM M)
def codeM (first : Int) (i : Nat) : Int := IntKind.u8.wrap (IntKind.i64.wrap (first + i))
def sampleM (M : Mm) (l : ListI) : List (Int × List Int) := l.tabs.mapIdx fun i t => (codeM l.first i, tabM' M t)
theorem readM_ok {M : Mm} {who area : Nat} {at_ : Int} {n : Nat} (h : (readM M who area at_ n).2 = 0) (h0 : 0 ≤ at_) : (readM M who area at_ n).1.length = n := by
  unfold readM at h ⊢
  split
  · rename_i q; rw [if_pos q] at h; cases h
  · rename_i q
    rw [if_neg q] at h
    split
    · rename_i e; rw [e] at h; cases h
    · rename_i l f e
      rw [e] at h
      dsimp only at h
      split
      · rename_i q2; rw [if_pos q2] at h; cases h
      · rename_i q2
        rw [Int.toNat_natCast, List.length_take, List.length_drop]
        omega
theorem entM_len (M : Mm) (e : EntryI) : (entM M e).length = e.size := by
  rw [entM]
  split
  · rename_i h; exact readM_ok h (by omega)
  · simp
theorem tabM'_take {M : Mm} {t : List EntryI} {k : Nat} {e : EntryI} (h : t[k]? = some e) : tabM' M (t.take (k + 1)) = tabM' M (t.take k) ++ entM M e := by
  rw [tabM', List.take_add_one, h, List.flatMap_append]
  simp [tabM']
theorem tabM'_len (M : Mm) {t : List EntryI} (h : ∀ e ∈ t, e.size ≤ 255) : (tabM' M t).length ≤ 255 * t.length := by
  induction t with
  | nil => simp [tabM']
  | cons e t ih =>
    have h1 := ih fun e he => h e (by simp [he])
    have h2 := h e (by simp)
    rw [tabM', List.flatMap_cons, List.length_append, entM_len, List.length_cons]
    rw [tabM'] at h1
    omega
theorem sampleM_take {M : Mm} {l : ListI} {i : Nat} {t : List EntryI} (h : l.tabs[i]? = some t) : (sampleM M l).take (i + 1) = (sampleM M l).take i ++ [(codeM l.first i, tabM' M t)] := by
  rw [List.take_add_one, sampleM, List.getElem?_mapIdx, h]
  rfl
theorem sampleM_len (M : Mm) (l : ListI) : (sampleM M l).length = l.tabs.length := by simp [sampleM]
def SampleOut (t : List (Int × List Int)) (v : Value) (B : List Asn) : Prop := ∃ (A : Option Addr) (c : Nat) (xs : List RepV), v = .slice A xs.length c ∧ B = [row 46 3 (.slice A xs.length c) xs.length (xs.flatMap repCells), starL (xs.map repB)] ∧ xs.map (fun x => (x.code, x.b)) = t
theorem rowRR : RowT tab 99 46 3 32 (.agg #[.int .u8 0, .int .u8 0, .slice none 0 0]) := ⟨rfl, rfl, rfl, by decide⟩
theorem zbv (n : Nat) : bv (List.replicate n 0) = List.replicate n (.int .u8 0) := by simp [bv]
attribute [local irreducible] blk row bytesA starL memA segA roB

attribute [local irreducible] repB

set_option maxHeartbeats 8000000 in
theorem sample_spec {p : Nat} {m : MemV} {w : World} (hm : Ro (fps []) w (memA p m)) (hk : MmOk m.abs) (v : List Value) (l : ListI) (hl : InList (fps []) w v l) (hsm : SmallL l) :
    Calls Try.prog 43 #[.pointer (some ⟨p, 0, none⟩), .agg v.toArray] w (Ret w [] (SampleOut (sampleM m.abs l))) := by
  obtain ⟨⟨A, n, c, rfl, htab, hnc, hcm⟩, hl1, hl2, hl3, hl4⟩ := hl
  have htl := htab.len
  have hs1 := hsm.1
  have hmx : maxLen = 2 ^ 63 - 1 := rfl
  refine enter (vs := [.pointer (some ⟨p, 0, none⟩), .agg #[.int .i64 l.first, .slice A n c, .bool l.stim, .int .u8 l.ev, .int .u8 l.pre, .int .u8 l.pri, .bool l.on, .bool l.ch]]) Try.func43 rfl Try.ntmps43 rfl (Hold.nil w) ?_
  (repeat (first | (refine i_dst ?_; (first | (refine i_move ?_; refine l_q rfl rfl rfl (q_move rfl) ?_) | (refine i_assign ?_; refine l_q rfl rfl rfl (q_assign rfl) ?_) | (refine i_load ?_; refine l_q rfl rfl rfl (by ((exact q_ld1 tab rfl rfl rfl (by first | ((repeat (first | exact List.Mem.head _ | apply List.Mem.tail)); done) | fail) (by (rfl))))) ?_) | (refine i_blt ?_; refine l_q rfl rfl rfl (by (exact q_len tab rfl rfl)) ?_) | (refine i_box ?_; (refine l_boxA rfl rfl (fun _ => ?_))) | (refine l_q rfl rfl rfl (by ((apply iq_fld; (exact q_fieldAddr tab rfl rfl rfl rfl rfl rfl rfl)))) ?_))) | refine d_seq ?_ | refine c_region ?_ | refine l_nil ?_ | refine c_block ?_ | (refine i_q ?_; (refine d_then ?_))))
  rename_i b3
  refine d_loop (T := Value × List RepV) [0, 3, 14, 15] (fun t => [(16, .int .i64 t.2.length), (5, t.1)]) [blk b3 [.int .i64 l.first, .slice A n c, .bool l.stim, .int .u8 l.ev, .int .u8 l.pre, .int .u8 l.pri, .bool l.on, .bool l.ch] 42] (fun t => [row 46 3 t.1 t.2.length (t.2.flatMap repCells), starL (t.2.map repB)]) (fun t => t.2.length ≤ n ∧ t.2.map (fun x => (x.code, x.b)) = (sampleM m.abs l).take t.2.length) (fun t => n - t.2.length) (.slice none 0 0, []) (by first | ((repeat (first | exact Pick.nil | exact rfl | apply Pick.cons)); done) | fail) ⟨Nat.zero_le _, rfl⟩ (by first | ((repeat (first | exact trivial | exact rfl | apply Sub.cons | exact look_int rfl (by omega) | exact look_int rfl (by simp) | exact look_int rfl (by simp; omega))); done) | fail) (fun w h => (st_nil (st_star0 h) _ 3).psub (by first | ((repeat (first | exact PSub.nil | exact Ext.head | apply Ext.tail | apply PSub.cons)); done) | fail)) ?_
  rintro ⟨ov, xs⟩ ⟨hx1, hx2⟩
  dsimp only at hx1 hx2 ⊢
  refine c_fact (p := ∃ Ao co, ov = .slice Ao xs.length co ∧ xs.length ≤ co ∧ co ≤ maxLen) (fun w h => ?_) ?_
  · obtain ⟨Ao, co, e1, e2, e3, -⟩ := row_slice (h.get (i := 0) rfl)
    exact ⟨Ao, co, e1, e2, e3⟩
  rintro ⟨Ao, co, rfl, ho1, ho2⟩
  by_cases hlt : xs.length < n
  · obtain ⟨t, ht⟩ : ∃ t, l.tabs[xs.length]? = some t := ⟨_, List.getElem?_eq_getElem (by omega)⟩
    obtain ⟨bT, oT, r2, rfl, hrl2, hT, hcell2⟩ := htab.get (by omega) ht
    obtain ⟨Ae, ne, ce, rfl, hE, he1, he2⟩ := hT
    have hel := hE.len
    have ht1000 := hsm.2 t (List.mem_of_getElem? ht)
    have hc2 : ∀ hp w', St (fps []) w hp w' → w'.cell? ⟨bT, oT + (xs.length : Int).toNat, none⟩ = some (.slice Ae ne ce) := fun hp w' h => by
      have := (hcell2 hp w' h) 0 _ rfl
      simpa using this
    have hcode : (IntKind.u8.wrap (IntKind.i64.wrap (l.first + (xs.length : Int)))) = codeM l.first xs.length := rfl
    (repeat (first | (refine i_dst ?_; (first | (refine i_move ?_; refine l_q rfl rfl rfl (q_move rfl) ?_) | (refine i_assign ?_; refine l_q rfl rfl rfl (q_assign rfl) ?_) | (refine i_load ?_; refine l_q rfl rfl rfl (by (first | (exact q_ld1 tab rfl rfl rfl (by first | ((repeat (first | exact List.Mem.head _ | apply List.Mem.tail)); done) | fail) (by (rfl))) | exact q_ldc tab rfl rfl rfl (by assumption))) ?_) | (refine i_bin ?_; refine l_q rfl rfl rfl (by (first | exact q_lss rfl rfl | exact q_add rfl rfl (by (rfl)))) ?_) | (refine i_blt ?_; refine l_q rfl rfl rfl (by (exact q_len tab rfl rfl)) ?_) | (refine i_ix ?_; refine l_q rfl rfl rfl (by (exact q_indexAddr1 tab rfl rfl rfl rfl (by omega))) ?_) | (refine i_alloc ?_; (refine l_allocA tab rfl rfl (fun _ => ?_))) | (refine l_q rfl rfl rfl (by (first | (apply iq_fld; (exact q_fieldAddr tab rfl rfl rfl rfl rfl rfl rfl)) | (apply iq_cv; (exact q_conv tab rfl rfl rfl (by (rfl)))) | (apply iq_bld; ((exact q_bld tab rfl rfl rfl (by first | ((repeat (first | exact FillR.nil | exact LSets.nil | exact LSet.zero | exact CellsOf.agg | exact rfl | exact CellsOf.one rfl | apply FillR.cons | apply LSets.cons | apply LSet.succ)); done) | fail) (fun w => by kernel_rfl)))))) ?_))) | refine d_seq ?_ | refine c_region ?_ | refine l_nil ?_ | refine c_block ?_ | (refine i_q ?_; (refine d_then ?_)) | refine c_skip ?_ | (refine i_store ?_; ((refine l_setN tab rfl rfl rfl rfl (List.cons_ne_nil _ _) rfl (by first | ((repeat (first | exact Upd.head | apply Upd.tail)); done) | fail) (by first | ((repeat (first | exact LSets.nil | exact LSet.zero | apply LSets.cons | apply LSet.succ)); done) | fail) ?_))) | (refine i_cond ?_; (refine c_ct rfl (by (exact decide_eq_true (by omega))) ?_))))
    rename_i b8
    rw [hcode]
    refine d_loop (T := Nat × Value) [0, 3, 5, 8, 14, 15, 16, 27, 28] (fun t' => [(29, .int .i64 t'.1)]) [row 46 3 (.slice Ao xs.length co) xs.length (xs.flatMap repCells), starL (xs.map repB), blk b3 [.int .i64 l.first, .slice (some ⟨bT, oT, none⟩) n c, .bool l.stim, .int .u8 l.ev, .int .u8 l.pre, .int .u8 l.pri, .bool l.on, .bool l.ch] 42]
      (fun t' => [blk b8 [.int .u8 4, .int .u8 (codeM l.first xs.length), t'.2] 46, row 5 1 t'.2 (tabM' m.abs (t.take t'.1)).length (bv (tabM' m.abs (t.take t'.1)))]) (fun t' => t'.1 ≤ ne ∧ (tabM' m.abs (t.take t'.1)).length ≤ 255 * t'.1 ∧ Oct (tabM' m.abs (t.take t'.1))) (fun t' => ne - t'.1) (0, .slice none 0 0) (by first | ((repeat (first | exact Pick.nil | exact rfl | apply Pick.cons)); done) | fail) ⟨Nat.zero_le _, Nat.zero_le _, Oct.nil⟩ (by first | ((repeat (first | exact trivial | exact rfl | apply Sub.cons | exact look_int rfl (by omega) | exact look_int rfl (by simp) | exact look_int rfl (by simp; omega))); done) | fail) (fun w h => (st_nil h 5 1).psub (by first | ((repeat (first | exact PSub.nil | exact Ext.head | apply Ext.tail | apply PSub.cons)); done) | fail)) ?_
    rintro ⟨j, rv⟩ ⟨hj, hal, hoc⟩
    dsimp only at hj hal hoc ⊢
    obtain ⟨acc, hacc⟩ : ∃ acc, acc = tabM' m.abs (t.take j) := ⟨_, rfl⟩
    rw [← hacc] at hal hoc ⊢
    refine c_fact (p := ∃ Ar cr, rv = .slice Ar acc.length cr ∧ acc.length ≤ cr ∧ cr ≤ maxLen) (fun w h => ?_) ?_
    · obtain ⟨Ao, co, e1, e2, e3, -⟩ := row_slice (h.get (i := 1) rfl)
      exact ⟨Ao, co, e1, e2, e3⟩
    rintro ⟨Ar, cr, rfl, hr1, hr2⟩
    by_cases hjl : j < ne
    · obtain ⟨e, he⟩ : ∃ e, t[j]? = some e := ⟨_, List.getElem?_eq_getElem (by omega)⟩
      obtain ⟨bE, oE, r3, rfl, hrl3, ⟨rfl, e1, e2, e3⟩, hcell3⟩ := hE.get (by omega) he
      have hst : tabM' m.abs (t.take (j + 1)) = acc ++ entM m.abs e := by rw [hacc]; exact tabM'_take he
      have hen := entM_len m.abs e
      (repeat (first | (refine i_dst ?_; (first | (refine i_move ?_; refine l_q rfl rfl rfl (q_move rfl) ?_) | (refine i_load ?_; refine l_q rfl rfl rfl (by (first | (exact q_ld1 tab rfl rfl rfl (by first | ((repeat (first | exact List.Mem.head _ | apply List.Mem.tail)); done) | fail) (by (rfl))) | exact q_ldcN tab rfl rfl rfl rfl (by assumption) rfl)) ?_) | (refine i_bin ?_; refine l_q rfl rfl rfl (by (exact q_lss rfl rfl)) ?_) | (refine i_ix ?_; refine l_q rfl rfl rfl (by (exact q_indexAddr tab rfl rfl rfl rfl (by omega))) ?_) | (refine i_alloc ?_; (refine l_allocA tab rfl rfl (fun _ => ?_))) | (refine l_q rfl rfl rfl (by (first | (apply iq_fld; (exact q_fieldAddr tab rfl rfl rfl rfl rfl rfl rfl)) | (apply iq_cv; (exact q_conv tab rfl rfl rfl (by (exact wr_i64 (by omega))))))) ?_))) | refine d_seq ?_ | refine c_region ?_ | refine l_nil ?_ | refine c_block ?_ | (refine i_q ?_; (refine d_then ?_)) | refine c_skip ?_ | (refine i_store ?_; ((refine l_setN tab rfl rfl rfl rfl (List.cons_ne_nil _ _) rfl (by first | ((repeat (first | exact Upd.head | apply Upd.tail)); done) | fail) (by first | ((repeat (first | exact LSets.nil | exact LSet.zero | apply LSets.cons | apply LSet.succ)); done) | fail) ?_))) | (refine i_cond ?_; (refine c_ct rfl (by (exact decide_eq_true (by omega))) ?_))))
      (refine l_call0 rfl rfl Try.func19 rfl (by decide) (fun w' h => read_spec (m := m) (roOf0 h hm) hk 1 e.area e.at_ e.size (by omega) (by omega) (by omega) (by omega) (by omega)) (fun v B hv => ?_); obtain ⟨A2, c2, rfl, rfl⟩ := hv)
      have hent : entM m.abs e = if (readM m.abs 1 e.area e.at_ e.size).2 = 0 then (readM m.abs 1 e.area e.at_ e.size).1 else List.replicate e.size 0 := rfl
      generalize (readM m.abs 1 e.area e.at_ e.size).2 = q at hent ⊢
      generalize (readM m.abs 1 e.area e.at_ e.size).1 = rb at hent ⊢
      refine l_fact (p := Oct rb) (fun w h => bytesA_oct (h.mem (X := bytesA (.slice A2 rb.length c2) rb) (by first | ((repeat (first | exact List.Mem.head _ | apply List.Mem.tail)); done) | fail))) ?_
      intro hro
      by_cases hq0 : q = 0
      · rw [if_pos hq0] at hent
        rw [hent] at hst hen
        (repeat (first | (refine i_dst ?_; (first | (refine i_move ?_; refine l_q rfl rfl rfl (q_move rfl) ?_) | (refine i_assign ?_; refine l_q rfl rfl rfl (q_assign rfl) ?_) | (refine i_load ?_; refine l_q rfl rfl rfl (by ((exact q_ld1 tab rfl rfl rfl (by first | ((repeat (first | exact List.Mem.head _ | apply List.Mem.tail)); done) | fail) (by (rfl))))) ?_) | (refine i_bin ?_; refine l_q rfl rfl rfl (by (exact q_neq rfl rfl)) ?_) | (refine l_q rfl rfl rfl (by (first | exact q_extract rfl rfl | (apply iq_fld; (exact q_fieldAddr tab rfl rfl rfl rfl rfl rfl rfl)))) ?_))) | refine d_seq ?_ | refine c_region ?_ | refine l_nil ?_ | (refine i_q ?_; (refine d_then ?_)) | refine c_skip ?_ | (refine i_cond ?_; (refine c_cf rfl (by (exact decide_eq_false (by omega))) ?_))))
        (refine l_app tab rfl rfl rfl rowB (by first | ((repeat (first | exact Ext.head | apply Ext.tail)); done) | fail) (news := bv rb) (fun w h => by rw [Nat.mul_one]; exact bytesA_src (h.mem (X := bytesA (.slice A2 rb.length c2) rb) (by first | ((repeat (first | exact List.Mem.head _ | apply List.Mem.tail)); done) | fail))) (bv_one _) (by omega) (by omega) (fun A7 c7 hA1 hA2 => ?_))
        (repeat (first | (refine i_dst ?_; (first | (refine i_move ?_; refine l_q rfl rfl rfl (q_move rfl) ?_) | (refine i_bin ?_; refine l_q rfl rfl rfl (by (exact q_add rfl rfl (by (exact wr_i64 (by omega))))) ?_) | (refine l_q rfl rfl rfl (by ((apply iq_fld; (exact q_fieldAddr tab rfl rfl rfl rfl rfl rfl rfl)))) ?_))) | refine c_region ?_ | refine l_nil ?_ | (refine i_q ?_; (first | refine d_then ?_ | refine t_then ?_ | refine t_block ?_)) | (refine i_store ?_; ((refine l_set tab rfl rfl rfl rfl (by first | ((repeat (first | exact Upd.head | apply Upd.tail)); done) | fail) (by first | ((repeat (first | exact LSet.zero | apply LSet.succ)); done) | fail) ?_)))))
        refine k_again (j + 1, .slice A7 (acc.length + rb.length) c7) ⟨by dsimp only; omega, by dsimp only; rw [hst, List.length_append]; omega, by dsimp only; rw [hst]; exact hoc.append hro⟩ (by dsimp only; omega) (by first | ((repeat (first | exact trivial | exact rfl | apply Sub.cons | exact look_int rfl (by omega) | exact look_int rfl (by simp) | exact look_int rfl (by simp; omega))); done) | fail) (fun w h => ?_)
        dsimp only
        rw [hst, List.length_append, bv_append]
        exact h.psub (by first | ((repeat (first | exact PSub.nil | exact Ext.head | apply Ext.tail | apply PSub.cons)); done) | fail)
      · rw [if_neg hq0] at hent
        rw [hent] at hst hen
        (repeat (first | (refine i_dst ?_; (first | (refine i_move ?_; refine l_q rfl rfl rfl (q_move rfl) ?_) | (refine i_assign ?_; refine l_q rfl rfl rfl (q_assign rfl) ?_) | (refine i_load ?_; refine l_q rfl rfl rfl (by ((exact q_ld1 tab rfl rfl rfl (by first | ((repeat (first | exact List.Mem.head _ | apply List.Mem.tail)); done) | fail) (by (rfl))))) ?_) | (refine i_bin ?_; refine l_q rfl rfl rfl (by (exact q_neq rfl rfl)) ?_) | (refine i_mk ?_; refine l_make rfl rfl rfl (fun w => run_makeN tab rfl rfl rfl (by (omega)) (by (omega)) w) (fun _ => ?_)) | (refine l_q rfl rfl rfl (by (first | exact q_extract rfl rfl | (apply iq_fld; (exact q_fieldAddr tab rfl rfl rfl rfl rfl rfl rfl)))) ?_))) | refine d_seq ?_ | refine c_region ?_ | refine l_nil ?_ | (refine i_q ?_; (refine d_then ?_)) | (refine i_cond ?_; (refine c_ct rfl (by (exact decide_eq_true (by omega))) ?_))))
        rename_i gz
        (refine l_app tab rfl rfl rfl rowB (by first | ((repeat (first | exact Ext.head | apply Ext.tail)); done) | fail) (news := bv (List.replicate e.size 0)) (fun w h => by rw [Nat.mul_one, zbv]; exact SrcAt.blk (h.mem (X := blk gz _ _) (by first | ((repeat (first | exact List.Mem.head _ | apply List.Mem.tail)); done) | fail)) (List.length_replicate ..)) (bv_one _) (by omega) (by omega) (fun A7 c7 hA1 hA2 => ?_))
        (repeat (first | (refine i_dst ?_; (first | (refine i_move ?_; refine l_q rfl rfl rfl (q_move rfl) ?_) | (refine i_bin ?_; refine l_q rfl rfl rfl (by (exact q_add rfl rfl (by (exact wr_i64 (by omega))))) ?_) | (refine l_q rfl rfl rfl (by ((apply iq_fld; (exact q_fieldAddr tab rfl rfl rfl rfl rfl rfl rfl)))) ?_))) | refine c_region ?_ | refine l_nil ?_ | (refine i_q ?_; (first | refine d_then ?_ | refine t_then ?_ | refine t_block ?_)) | (refine i_store ?_; ((refine l_set tab rfl rfl rfl rfl (by first | ((repeat (first | exact Upd.head | apply Upd.tail)); done) | fail) (by first | ((repeat (first | exact LSet.zero | apply LSet.succ)); done) | fail) ?_)))))
        refine k_again (j + 1, .slice A7 (acc.length + e.size) c7) ⟨by dsimp only; omega, by dsimp only; rw [hst, List.length_append, List.length_replicate]; omega, by dsimp only; rw [hst]; exact hoc.append (Oct.zeros _)⟩ (by dsimp only; omega) (by first | ((repeat (first | exact trivial | exact rfl | apply Sub.cons | exact look_int rfl (by omega) | exact look_int rfl (by simp) | exact look_int rfl (by simp; omega))); done) | fail) (fun w h => ?_)
        dsimp only
        rw [hst, List.length_append, bv_append, List.length_replicate]
        exact h.psub (by first | ((repeat (first | exact PSub.nil | exact Ext.head | apply Ext.tail | apply PSub.cons)); done) | fail)
    · have hjn : j = ne := by omega
      rw [List.take_of_length_le (by omega)] at hacc
      (repeat (first | (refine i_dst ?_; (first | (refine i_move ?_; refine l_q rfl rfl rfl (q_move rfl) ?_) | (refine i_load ?_; refine l_q rfl rfl rfl (by ((exact q_ldN tab rfl rfl rfl rfl (by first | ((repeat (first | exact List.Mem.head _ | apply List.Mem.tail)); done) | fail) (by first | ((repeat (first | exact TakeR.nil | apply TakeR.cons | apply CutR.zero | apply CutR.skip)); done) | fail)))) ?_) | (refine i_bin ?_; refine l_q rfl rfl rfl (by (exact q_lss rfl rfl)) ?_) | (refine i_bldS ?_; refine l_bldS tab rfl rfl rfl rfl (by first | exact CellsOf.agg | exact CellsOf.one rfl) (by first | ((repeat (first | exact RepR.zero | exact AppR.nil | apply RepR.succ | apply AppR.cons)); done) | fail) (by first | ((repeat (first | exact FillR.nil | exact LSets.nil | exact LSet.zero | exact CellsOf.agg | exact rfl | exact CellsOf.one rfl | apply FillR.cons | apply LSets.cons | apply LSet.succ)); done) | fail) (fun w => by kernel_rfl) (fun _ => ?_)))) | refine d_seq ?_ | refine c_region ?_ | refine l_nil ?_ | (refine i_q ?_; (first | refine d_then ?_ | refine d_then_exit ?_ | refine t_then_exit ?_ | refine t_block_eq rfl ?_)) | refine c_exit ?_ | (refine i_cond ?_; (refine c_cf rfl (by (exact decide_eq_false (by omega))) ?_))))
      rename_i g9
      (refine l_app tab rfl rfl rfl rowRR (by first | ((repeat (first | exact Ext.head | apply Ext.tail)); done) | fail) (news := repCells ⟨codeM l.first xs.length, .slice Ar acc.length cr, acc⟩) (fun w h => SrcAt.blk (h.mem (X := blk g9 (repCells ⟨codeM l.first xs.length, .slice Ar acc.length cr, acc⟩) _) (by first | ((repeat (first | exact List.Mem.head _ | apply List.Mem.tail)); done) | fail)) rfl) (by simp [repCells, Value.oneCell']) (by omega) (by omega) (fun A8 c8 hA1 hA2 => ?_))
      (repeat (first | (refine i_dst ?_; (first | (refine i_move ?_; refine l_q rfl rfl rfl (q_move rfl) ?_) | (refine i_assign ?_; refine l_q rfl rfl rfl (q_assign rfl) ?_) | (refine i_bin ?_; refine l_q rfl rfl rfl (by (exact q_add rfl rfl (by (exact wr_i64 (by omega))))) ?_))) | refine c_region ?_ | refine l_nil ?_ | (refine i_q ?_; (first | refine d_then ?_ | refine t_then ?_ | refine t_block ?_))))
      refine k_again (.slice A8 (xs.length + 1) c8, xs ++ [⟨codeM l.first xs.length, .slice Ar acc.length cr, acc⟩]) ⟨by dsimp only; rw [List.length_append, List.length_singleton]; omega, ?_⟩ (by dsimp only; rw [List.length_append, List.length_singleton]; omega) ?_ (fun w h => ?_)
      · dsimp only
        rw [List.map_append, List.length_append, List.length_singleton, sampleM_take ht, hx2, hacc]
        rfl
      · dsimp only
        rw [List.length_append, List.length_singleton]
        exact (by first | ((repeat (first | exact trivial | exact rfl | apply Sub.cons | exact look_int rfl (by omega) | exact look_int rfl (by simp) | exact look_int rfl (by simp; omega))); done) | fail)
      · dsimp only
        rw [List.length_append, List.length_singleton, List.flatMap_append, List.map_append]
        have h1 := (h.ext (X := row 5 1 (.slice Ar acc.length cr) acc.length (bv acc)) (by first | ((repeat (first | exact Ext.head | apply Ext.tail)); done) | fail)).see (i := 0) (Y := repB ⟨codeM l.first xs.length, .slice Ar acc.length cr, acc⟩) rfl (fun h => by unfold repB; exact bytesA_of rfl hoc h) (fun b hb => by unfold repB at hb; exact bytesA_rowS b hb)
        have h2 : St (fps []) _ (repB ⟨codeM l.first xs.length, .slice Ar acc.length cr, acc⟩ :: starL (xs.map repB) :: [row 46 3 (.slice A8 (xs.length + 1) c8) (xs.length + 1) (xs.flatMap repCells ++ repCells ⟨codeM l.first xs.length, .slice Ar acc.length cr, acc⟩), blk b3 [.int .i64 l.first, .slice (some ⟨bT, oT, none⟩) n c, .bool l.stim, .int .u8 l.ev, .int .u8 l.pre, .int .u8 l.pri, .bool l.on, .bool l.ch] 42]) w := h1.psub (by first | ((repeat (first | exact PSub.nil | exact Ext.head | apply Ext.tail | apply PSub.cons)); done) | fail)
        exact (st_snoc h2).psub (by first | ((repeat (first | exact PSub.nil | exact Ext.head | apply Ext.tail | apply PSub.cons)); done) | fail)
  · (repeat (first | (refine i_dst ?_; (first | (refine i_move ?_; refine l_q rfl rfl rfl (q_move rfl) ?_) | (refine i_assign ?_; refine l_q rfl rfl rfl (q_assign rfl) ?_) | (refine i_bin ?_; refine l_q rfl rfl rfl (by (exact q_lss rfl rfl)) ?_))) | refine d_seq ?_ | refine c_region ?_ | refine l_nil ?_ | (refine i_q ?_; (first | refine d_then ?_ | refine d_then_exit ?_ | refine t_then_exit ?_ | refine t_block_eq rfl ?_)) | refine c_exit ?_ | refine c_ret ?_ | (refine i_cond ?_; (refine c_cf rfl (by (exact decide_eq_false (by omega))) ?_))))
    have hxn : xs.length = n := by omega
    refine t_hp (fun w h => h.subl (by first | ((repeat (first | exact SubL.nil | apply SubL.keep | apply SubL.skip)); done) | fail)) (t_ret1 Try.results43 rfl ⟨Ao, co, xs, rfl, rfl, ?_⟩)
    rw [hx2, List.take_of_length_le (by rw [sampleM_len]; omega)]
end Go.Proofs.Ytkeekkdaielipaa

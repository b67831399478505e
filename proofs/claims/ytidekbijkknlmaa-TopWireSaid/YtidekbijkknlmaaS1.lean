/-
  Layer 14: lists and tables that come in; needs, and of, walked.
-/
import Derived.Test.YtidekbijkknlmaaI2
set_option linter.unusedVariables false
set_option maxRecDepth 100000
namespace Go.Proofs.Ytidekbijkknlmaa
open Go.RowKit
attribute [local irreducible] TL TC TQ TK TO Qt TA
structure EntryI where
  size : Nat
  area : Nat
  at_ : Nat
structure ListI where
  first : Int
  tabs : List (List EntryI)
  stim : Bool
  ev : Nat
  pre : Nat
  pri : Nat
  on : Bool
  ch : Bool
/-- An entry's cells. -/
def InEntry (v : List Value) (e : EntryI) : Prop := v = [.int .u8 e.size, .int .u8 e.area, .int .u32 e.at_] ∧ e.size ≤ 255 ∧ e.area ≤ 255 ∧ e.at_ ≤ 4294967295
def InTab (S : Nat → Prop) (w0 : World) (v : List Value) (t : List EntryI) : Prop := ∃ A n c, v = [.slice A n c] ∧ InS S w0 3 InEntry A n t ∧ n ≤ c ∧ c ≤ maxLen
structure InList (S : Nat → Prop) (w0 : World) (v : List Value) (l : ListI) : Prop where
  is : ∃ A n c, v = [.int .i64 l.first, .slice A n c, .bool l.stim, .int .u8 l.ev, .int .u8 l.pre, .int .u8 l.pri, .bool l.on, .bool l.ch] ∧ InS S w0 1 (InTab S w0) A n l.tabs ∧ n ≤ c ∧ c ≤ maxLen
  first : -9223372036854775808 ≤ l.first ∧ l.first ≤ 9223372036854775807
  ev : l.ev ≤ 255
  pre : l.pre ≤ 255
  pri : l.pri ≤ 255
theorem InTab.to {S S' : Nat → Prop} {w0 w1 : World} {v : List Value} {t : List EntryI} (h : InTab S w0 v t) (hr : ∀ r, Ro S w0 r → Ro S' w1 r) : InTab S' w1 v t := by
  obtain ⟨A, n, c, h1, h2, h3⟩ := h
  exact ⟨A, n, c, h1, h2.to hr (fun _ _ h => h), h3⟩
theorem InList.to {S S' : Nat → Prop} {w0 w1 : World} {v : List Value} {l : ListI} (h : InList S w0 v l) (hr : ∀ r, Ro S w0 r → Ro S' w1 r) : InList S' w1 v l := by
  obtain ⟨⟨A, n, c, h1, h2, h3⟩, h4, h5, h6, h7⟩ := h
  exact ⟨⟨A, n, c, h1, h2.to hr (fun _ _ h => h.to hr), h3⟩, h4, h5, h6, h7⟩
def needsM (t : List EntryI) : Nat := (t.map (·.size)).sum
theorem needsM_snoc (t : List EntryI) (e : EntryI) : needsM (t ++ [e]) = needsM t + e.size := by simp [needsM]
theorem needsM_take {t : List EntryI} {k : Nat} {e : EntryI} (h : t[k]? = some e) : needsM (t.take (k + 1)) = needsM (t.take k) + e.size := by
  rw [List.take_add_one, h]
  exact needsM_snoc _ _
/-- What a code less the first number is. -/
def kM (code : Nat) (first : Int) : Int := IntKind.i64.wrap ((code : Int) - first)
def hitM (code : Nat) (l : ListI) : Bool := l.on && l.stim && decide (0 ≤ kM code l.first ∧ kM code l.first < l.tabs.length)
/-- The list, and its table, that a packet is for. -/
def ofFrom (code : Nat) : Nat → List ListI → Option (Nat × Nat)
  | _, [] => none
  | i, l :: r => if hitM code l then some (i, (kM code l.first).toNat) else ofFrom code (i + 1) r
def ofM (code : Nat) (ls : List ListI) : Option (Nat × Nat) := ofFrom code 0 (ls.take 4)
def ofRes : Option (Nat × Nat) → Value
  | some (i, k) => .tuple #[.int .i64 i, .int .i64 k, .bool true]
  | none => .tuple #[.int .i64 0, .int .i64 0, .bool false]
theorem ofFrom_skip {code : Nat} : ∀ {i k : Nat} {ls : List ListI}, (∀ j l, j < k → ls[j]? = some l → hitM code l = false) → k ≤ ls.length → ofFrom code i ls = ofFrom code (i + k) (ls.drop k)
  | i, 0, ls, _, _ => rfl
  | i, k + 1, [], _, h => by simp at h
  | i, k + 1, l :: ls, h, hk => by
    rw [ofFrom, if_neg (by rw [h 0 l (by omega) rfl]; simp), List.drop_succ_cons, ofFrom_skip (k := k) (fun j l hj hl => h (j + 1) l (by omega) (by simpa using hl)) (by simpa using hk), show i + 1 + k = i + (k + 1) by omega]
theorem ofM_hit {code : Nat} {ls : List ListI} {k : Nat} {l : ListI} (h : ∀ j l, j < k → (ls.take 4)[j]? = some l → hitM code l = false) (hl : (ls.take 4)[k]? = some l) (hh : hitM code l = true) : ofM code ls = some (k, (kM code l.first).toNat) := by
  have hk := (List.getElem?_eq_some_iff.1 hl).1
  rw [ofM, ofFrom_skip h (by omega), Nat.zero_add, List.drop_eq_getElem_cons hk, ofFrom]
  have e : (ls.take 4)[k] = l := by
    rw [List.getElem?_eq_getElem hk] at hl
    injection hl
  rw [e, if_pos hh]
theorem ofM_none {code : Nat} {ls : List ListI} (h : ∀ j l, j < (ls.take 4).length → (ls.take 4)[j]? = some l → hitM code l = false) : ofM code ls = none := by
  rw [ofM, ofFrom_skip h (Nat.le_refl _), List.drop_length]
  rfl
attribute [local irreducible] blk row bytesA starL memA segA roB
set_option maxHeartbeats 4000000 in
theorem needs_spec {A : Option Addr} {n c : Nat} {t : List EntryI} {w : World} (h : InS (fps []) w 3 InEntry A n t) (hn : n ≤ 1000) :
    Calls Try.prog 57 #[.slice A n c] w (Ret w [] fun v B => v = .int .i64 (needsM t) ∧ B = []) := by
  refine enter (vs := [.slice A n c]) Try.func57 rfl Try.ntmps57 rfl (Hold.nil w) ?_
  (repeat (first | (refine i_dst ?_; (first | (refine i_move ?_; refine l_q rfl rfl rfl (q_move rfl) ?_) | (refine i_assign ?_; refine l_q rfl rfl rfl (q_assign rfl) ?_) | (refine i_blt ?_; refine l_q rfl rfl rfl (by (exact q_len tab rfl rfl)) ?_))) | refine d_seq ?_ | refine c_region ?_ | refine l_nil ?_ | refine c_block ?_ | (refine i_q ?_; (refine d_then ?_))))
  refine d_loop (T := Nat) [6, 7] (fun k => [(3, .int .i64 (needsM (t.take k))), (8, .int .i64 k)]) [] (fun _ => []) (fun k => k ≤ n ∧ needsM (t.take k) ≤ 255 * k) (fun k => n - k) 0 (by first | ((repeat (first | exact Pick.nil | exact rfl | apply Pick.cons)); done) | fail) ⟨Nat.zero_le _, Nat.le_refl _⟩ (by first | ((repeat (first | exact trivial | exact rfl | apply Sub.cons | exact look_int rfl (by omega) | exact look_int rfl (by simp) | exact look_int rfl (by simp; omega))); done) | fail) (fun w h => h) ?_
  rintro k ⟨hk, hs⟩
  by_cases hlt : k < n
  · obtain ⟨e, he⟩ : ∃ e, t[k]? = some e := ⟨_, List.getElem?_eq_getElem (by rw [h.len]; exact hlt)⟩
    obtain ⟨b, o, r, rfl, hrl, ⟨rfl, e1, e2, e3⟩, hcell⟩ := h.get (by omega) he
    have hst := needsM_take he
    (repeat (first | (refine i_dst ?_; (first | (refine i_move ?_; refine l_q rfl rfl rfl (q_move rfl) ?_) | (refine i_assign ?_; refine l_q rfl rfl rfl (q_assign rfl) ?_) | (refine i_load ?_; refine l_q rfl rfl rfl (by (first | (exact q_ld1 tab rfl rfl rfl (by first | ((repeat (first | exact List.Mem.head _ | apply List.Mem.tail)); done) | fail) (by (rfl))) | exact q_ldcN tab rfl rfl rfl rfl (by assumption) rfl)) ?_) | (refine i_bin ?_; refine l_q rfl rfl rfl (by (first | exact q_lss rfl rfl | exact q_add rfl rfl (by (exact wr_i64 (by omega))))) ?_) | (refine i_ix ?_; refine l_q rfl rfl rfl (by (exact q_indexAddr tab rfl rfl rfl rfl (by omega))) ?_) | (refine i_alloc ?_; (refine l_allocA tab rfl rfl (fun _ => ?_))) | (refine l_q rfl rfl rfl (by (first | (apply iq_fld; (exact q_fieldAddr tab rfl rfl rfl rfl rfl rfl rfl)) | (apply iq_cv; (exact q_conv tab rfl rfl rfl (by (exact wr_i64 (by omega))))))) ?_))) | refine d_seq ?_ | refine c_region ?_ | refine l_nil ?_ | refine c_block ?_ | (refine i_q ?_; (first | refine d_then ?_ | refine t_then ?_ | refine t_block ?_)) | refine c_skip ?_ | (refine i_store ?_; ((refine l_setN tab rfl rfl rfl rfl (List.cons_ne_nil _ _) rfl (by first | ((repeat (first | exact Upd.head | apply Upd.tail)); done) | fail) (by first | ((repeat (first | exact LSets.nil | exact LSet.zero | apply LSets.cons | apply LSet.succ)); done) | fail) ?_))) | (refine i_cond ?_; (refine c_ct rfl (by (exact decide_eq_true (by omega))) ?_))))
    exact k_again (k + 1) ⟨by omega, by rw [hst]; omega⟩ (by omega) (by first | ((repeat (first | exact trivial | exact rfl | apply Sub.cons | exact look_int rfl (by omega) | exact look_int rfl (by simp) | exact look_int rfl (by simp; omega))); done) | fail) (fun w h => h.subl (by first | ((repeat (first | exact SubL.nil | apply SubL.keep | apply SubL.skip)); done) | fail))
  · have hkn : k = n := by omega
    subst hkn
    rw [List.take_of_length_le (by rw [h.len]; omega)]
    (repeat (first | (refine i_dst ?_; (first | (refine i_move ?_; refine l_q rfl rfl rfl (q_move rfl) ?_) | (refine i_assign ?_; refine l_q rfl rfl rfl (q_assign rfl) ?_) | (refine i_bin ?_; refine l_q rfl rfl rfl (by (exact q_lss rfl rfl)) ?_))) | refine d_seq ?_ | refine c_region ?_ | refine l_nil ?_ | (refine i_q ?_; (first | refine d_then ?_ | refine d_then_exit ?_ | refine t_then_exit ?_ | refine t_block_eq rfl ?_)) | refine c_exit ?_ | refine c_ret ?_ | (refine i_cond ?_; ((refine c_cf rfl (by (((first | (simp; done) | fail)))) ?_)))))
    exact t_ret1 Try.results57 rfl ⟨rfl, rfl⟩

set_option maxHeartbeats 4000000 in
theorem of_stim_spec {A : Option Addr} {n c : Nat} {ls : List ListI} {w : World} (h : InS (fps []) w 8 (InList (fps []) w) A n ls) (hnc : n ≤ c) (hcm : c ≤ maxLen) (code : Nat) (hc : code ≤ 255) :
    Calls Try.prog 56 #[.slice A n c, .int .u8 code] w (Ret w [] fun v B => v = ofRes (ofM code ls) ∧ B = []) := by
  refine enter (vs := [.slice A n c, .int .u8 code]) Try.func56 rfl Try.ntmps56 rfl (Hold.nil w) ?_
  have hmx : maxLen = 2 ^ 63 - 1 := rfl
  have hlen := h.len
  (repeat (first | (refine i_dst ?_; (first | (refine i_move ?_; refine l_q rfl rfl rfl (q_move rfl) ?_) | (refine i_assign ?_; refine l_q rfl rfl rfl (q_assign rfl) ?_) | (refine i_blt ?_; refine l_q rfl rfl rfl (by (first | exact q_len tab rfl rfl | exact q_minN rfl rfl)) ?_) | (refine i_sl ?_; refine l_q rfl rfl rfl (by (exact q_slHi tab rfl rfl rfl rfl (by first | (with_reducible exact Int.toNat_natCast _) | (with_reducible exact Int.toNat_zero) | (with_reducible exact Int.toNat_one) | rfl) (by (omega)))) ?_))) | refine d_seq ?_ | refine c_region ?_ | refine l_nil ?_ | refine c_block ?_ | (refine i_q ?_; (refine d_then ?_))))
  refine d_loop (T := Nat) [1] (fun k => [(16, .int .i64 k), (14, .slice A (min n 4) c), (15, .int .i64 ((min n 4 : Nat) : Int))]) [] (fun _ => []) (fun k => k ≤ min n 4 ∧ ∀ j l, j < k → (ls.take 4)[j]? = some l → hitM code l = false) (fun k => min n 4 - k) 0 (by first | ((repeat (first | exact Pick.nil | exact rfl | apply Pick.cons)); done) | fail) ⟨Nat.zero_le _, fun j l hj => by omega⟩ (by first | ((repeat (first | exact trivial | exact rfl | apply Sub.cons | exact look_int rfl (by omega) | exact look_int rfl (by simp) | exact look_int rfl (by simp; omega))); done) | fail) (fun w h => h) ?_
  rintro k ⟨hk, hno⟩
  by_cases hlt : k < min n 4
  · obtain ⟨l, hl⟩ : ∃ l, ls[k]? = some l := ⟨_, List.getElem?_eq_getElem (by omega)⟩
    have hl4 : (ls.take 4)[k]? = some l := by rw [List.getElem?_take_of_lt (by omega)]; exact hl
    obtain ⟨b, o, r, rfl, hrl, hL, hcell⟩ := h.get (by omega) hl
    obtain ⟨⟨At, nt, ct, rfl, htab, ht1, ht2⟩, hf1, _, _, _⟩ := hL
    have htl := htab.len
    obtain ⟨first, tabs, stim, ev, pre, pri, on, ch⟩ := l
    dsimp only at htl hf1 hcell htab
    have hno' : hitM code ⟨first, tabs, stim, ev, pre, pri, on, ch⟩ = false → ∀ j l, j < k + 1 → (ls.take 4)[j]? = some l → hitM code l = false := fun hq j l hj hjl => by
      by_cases e : j = k
      · subst e
        rw [hl4] at hjl
        injection hjl with hjl
        rw [← hjl]
        exact hq
      · exact hno j l (by omega) hjl
    cases on with
    | false =>
      (repeat (first | (refine i_dst ?_; (first | (refine i_move ?_; refine l_q rfl rfl rfl (q_move rfl) ?_) | (refine i_assign ?_; refine l_q rfl rfl rfl (q_assign rfl) ?_) | (refine i_load ?_; refine l_q rfl rfl rfl (by (first | (exact q_ld1 tab rfl rfl rfl (by first | ((repeat (first | exact List.Mem.head _ | apply List.Mem.tail)); done) | fail) (by (rfl))) | exact q_ldcN tab rfl rfl rfl rfl (by assumption) rfl)) ?_) | (refine i_bin ?_; refine l_q rfl rfl rfl (by (first | exact q_lss rfl rfl | exact q_add rfl rfl (by (first | exact wr_i64 (by omega) | rfl)) | exact q_sub rfl rfl (by (rfl)))) ?_) | (refine i_ix ?_; refine l_q rfl rfl rfl (by (exact q_indexAddr tab rfl rfl rfl rfl (by omega))) ?_) | (refine i_alloc ?_; (refine l_allocA tab rfl rfl (fun _ => ?_))) | (refine l_q rfl rfl rfl (by (first | (apply iq_fld; (exact q_fieldAddr tab rfl rfl rfl rfl rfl rfl rfl)) | (apply iq_cv; (exact q_conv tab rfl rfl rfl (by (exact wr_i64 (by omega))))) | exact q_pick_f rfl rfl)) ?_))) | refine d_seq ?_ | refine c_region ?_ | refine l_nil ?_ | refine c_block ?_ | (refine i_q ?_; (first | refine d_then ?_ | refine t_then ?_ | refine t_block ?_)) | refine c_skip ?_ | (refine i_guard ?_; (refine l_gf rfl rfl rfl rfl rfl rfl ?_)) | (refine i_store ?_; ((refine l_setN tab rfl rfl rfl rfl (List.cons_ne_nil _ _) rfl (by first | ((repeat (first | exact Upd.head | apply Upd.tail)); done) | fail) (by first | ((repeat (first | exact LSets.nil | exact LSet.zero | apply LSets.cons | apply LSet.succ)); done) | fail) ?_))) | (refine i_cond ?_; (first | refine c_ct rfl (by (exact decide_eq_true (by omega))) ?_ | refine c_cf rfl (by (rfl)) ?_))))
      exact k_again (k + 1) ⟨by omega, hno' (by simp [hitM])⟩ (by omega) (by first | ((repeat (first | exact trivial | exact rfl | apply Sub.cons | exact look_int rfl (by omega) | exact look_int rfl (by simp) | exact look_int rfl (by simp; omega))); done) | fail) (fun w h => h.subl (by first | ((repeat (first | exact SubL.nil | apply SubL.keep | apply SubL.skip)); done) | fail))
    | true =>
      cases stim with
      | false =>
        (repeat (first | (refine i_dst ?_; (first | (refine i_move ?_; refine l_q rfl rfl rfl (q_move rfl) ?_) | (refine i_assign ?_; refine l_q rfl rfl rfl (q_assign rfl) ?_) | (refine i_load ?_; refine l_q rfl rfl rfl (by (first | (exact q_ld1 tab rfl rfl rfl (by first | ((repeat (first | exact List.Mem.head _ | apply List.Mem.tail)); done) | fail) (by (rfl))) | exact q_ldcN tab rfl rfl rfl rfl (by assumption) rfl)) ?_) | (refine i_bin ?_; refine l_q rfl rfl rfl (by (first | exact q_lss rfl rfl | exact q_add rfl rfl (by (first | exact wr_i64 (by omega) | rfl)) | exact q_sub rfl rfl (by (rfl)))) ?_) | (refine i_ix ?_; refine l_q rfl rfl rfl (by (exact q_indexAddr tab rfl rfl rfl rfl (by omega))) ?_) | (refine i_alloc ?_; (refine l_allocA tab rfl rfl (fun _ => ?_))) | (refine l_q rfl rfl rfl (by (first | (apply iq_fld; (exact q_fieldAddr tab rfl rfl rfl rfl rfl rfl rfl)) | (apply iq_cv; (exact q_conv tab rfl rfl rfl (by (exact wr_i64 (by omega))))) | exact q_pick_t rfl rfl | exact q_pick_f rfl rfl)) ?_))) | refine d_seq ?_ | refine c_region ?_ | refine l_nil ?_ | refine c_block ?_ | (refine i_q ?_; (first | refine d_then ?_ | refine t_then ?_ | refine t_block ?_)) | refine c_skip ?_ | (refine i_guard ?_; (first | refine l_gt rfl rfl rfl ?_ | refine l_gf rfl rfl rfl rfl rfl rfl ?_)) | (refine i_store ?_; ((refine l_setN tab rfl rfl rfl rfl (List.cons_ne_nil _ _) rfl (by first | ((repeat (first | exact Upd.head | apply Upd.tail)); done) | fail) (by first | ((repeat (first | exact LSets.nil | exact LSet.zero | apply LSets.cons | apply LSet.succ)); done) | fail) ?_))) | (refine i_cond ?_; (first | refine c_ct rfl (by (exact decide_eq_true (by omega))) ?_ | refine c_cf rfl (by (rfl)) ?_))))
        exact k_again (k + 1) ⟨by omega, hno' (by simp [hitM])⟩ (by omega) (by first | ((repeat (first | exact trivial | exact rfl | apply Sub.cons | exact look_int rfl (by omega) | exact look_int rfl (by simp) | exact look_int rfl (by simp; omega))); done) | fail) (fun w h => h.subl (by first | ((repeat (first | exact SubL.nil | apply SubL.keep | apply SubL.skip)); done) | fail))
      | true =>
        obtain ⟨q, hq⟩ : ∃ q, q = kM code first := ⟨_, rfl⟩
        have hq' := hq
        unfold kM at hq'
        by_cases h0 : 0 ≤ q
        · by_cases h1 : q < tabs.length
          · have hh : hitM code ⟨first, tabs, true, ev, pre, pri, true, ch⟩ = true := by simp [hitM, ← hq, h0, h1]
            have hof := ofM_hit hno hl4 hh
            (repeat (first | (refine i_dst ?_; (first | (refine i_move ?_; refine l_q rfl rfl rfl (q_move rfl) ?_) | (refine i_assign ?_; refine l_q rfl rfl rfl (q_assign rfl) ?_) | (refine i_load ?_; refine l_q rfl rfl rfl (by (first | (exact q_ld1 tab rfl rfl rfl (by first | ((repeat (first | exact List.Mem.head _ | apply List.Mem.tail)); done) | fail) (by (rfl))) | exact q_ldcN tab rfl rfl rfl rfl (by assumption) rfl)) ?_) | (refine i_bin ?_; refine l_q rfl rfl rfl (by (first | exact q_lss rfl rfl | exact q_geq rfl rfl | exact q_sub rfl rfl (by (rfl)))) ?_) | (refine i_blt ?_; refine l_q rfl rfl rfl (by (exact q_len tab rfl rfl)) ?_) | (refine i_ix ?_; refine l_q rfl rfl rfl (by (exact q_indexAddr tab rfl rfl rfl rfl (by omega))) ?_) | (refine i_alloc ?_; (refine l_allocA tab rfl rfl (fun _ => ?_))) | (refine l_q rfl rfl rfl (by (first | (apply iq_fld; (exact q_fieldAddr tab rfl rfl rfl rfl rfl rfl rfl)) | (apply iq_cv; (exact q_conv tab rfl rfl rfl (by (exact wr_i64 (by omega))))) | exact q_pick_t rfl rfl)) ?_))) | refine d_seq ?_ | refine c_region ?_ | refine l_nil ?_ | refine c_block ?_ | (refine i_q ?_; (first | refine d_then ?_ | refine d_then_ret ?_ | refine t_then_ret ?_ | refine t_block_ret ?_)) | refine c_skip ?_ | refine c_ret ?_ | (refine i_guard ?_; (first | refine l_gt rfl rfl rfl ?_ | refine l_gtd rfl rfl rfl (by (exact decide_eq_true (by omega))) ?_)) | (refine i_store ?_; ((refine l_setN tab rfl rfl rfl rfl (List.cons_ne_nil _ _) rfl (by first | ((repeat (first | exact Upd.head | apply Upd.tail)); done) | fail) (by first | ((repeat (first | exact LSets.nil | exact LSet.zero | apply LSets.cons | apply LSet.succ)); done) | fail) ?_))) | (refine i_cond ?_; (refine c_ct rfl (by (exact decide_eq_true (by omega))) ?_))))
            refine t_hp (hp' := []) (fun w h => h.subl (by first | ((repeat (first | exact SubL.nil | apply SubL.keep | apply SubL.skip)); done) | fail)) (t_ret3 Try.results56 rfl rfl rfl ⟨?_, rfl⟩)
            rw [hof, ofRes]
            show Value.tuple #[.int .i64 k, .int .i64 (IntKind.i64.wrap ((code : Int) - first)), .bool true] = .tuple #[.int .i64 k, .int .i64 ((kM code first).toNat : Int), .bool true]
            rw [← hq', ← hq, Int.toNat_of_nonneg h0]
          · (repeat (first | (refine i_dst ?_; (first | (refine i_move ?_; refine l_q rfl rfl rfl (q_move rfl) ?_) | (refine i_assign ?_; refine l_q rfl rfl rfl (q_assign rfl) ?_) | (refine i_load ?_; refine l_q rfl rfl rfl (by (first | (exact q_ld1 tab rfl rfl rfl (by first | ((repeat (first | exact List.Mem.head _ | apply List.Mem.tail)); done) | fail) (by (rfl))) | exact q_ldcN tab rfl rfl rfl rfl (by assumption) rfl)) ?_) | (refine i_bin ?_; refine l_q rfl rfl rfl (by (first | exact q_lss rfl rfl | exact q_geq rfl rfl | exact q_add rfl rfl (by (first | exact wr_i64 (by omega) | rfl)) | exact q_sub rfl rfl (by (rfl)))) ?_) | (refine i_blt ?_; refine l_q rfl rfl rfl (by (exact q_len tab rfl rfl)) ?_) | (refine i_ix ?_; refine l_q rfl rfl rfl (by (exact q_indexAddr tab rfl rfl rfl rfl (by omega))) ?_) | (refine i_alloc ?_; (refine l_allocA tab rfl rfl (fun _ => ?_))) | (refine l_q rfl rfl rfl (by (first | (apply iq_fld; (exact q_fieldAddr tab rfl rfl rfl rfl rfl rfl rfl)) | (apply iq_cv; (exact q_conv tab rfl rfl rfl (by (exact wr_i64 (by omega))))) | exact q_pick_t rfl rfl)) ?_))) | refine d_seq ?_ | refine c_region ?_ | refine l_nil ?_ | refine c_block ?_ | (refine i_q ?_; (first | refine d_then ?_ | refine t_then ?_ | refine t_block ?_)) | refine c_skip ?_ | (refine i_guard ?_; (first | refine l_gt rfl rfl rfl ?_ | refine l_gtd rfl rfl rfl (by (exact decide_eq_true (by omega))) ?_)) | (refine i_store ?_; ((refine l_setN tab rfl rfl rfl rfl (List.cons_ne_nil _ _) rfl (by first | ((repeat (first | exact Upd.head | apply Upd.tail)); done) | fail) (by first | ((repeat (first | exact LSets.nil | exact LSet.zero | apply LSets.cons | apply LSet.succ)); done) | fail) ?_))) | (refine i_cond ?_; (first | refine c_ct rfl (by (exact decide_eq_true (by omega))) ?_ | refine c_cf rfl (by (exact decide_eq_false (by omega))) ?_))))
            exact k_again (k + 1) ⟨by omega, hno' (by simp [hitM, ← hq]; omega)⟩ (by omega) (by first | ((repeat (first | exact trivial | exact rfl | apply Sub.cons | exact look_int rfl (by omega) | exact look_int rfl (by simp) | exact look_int rfl (by simp; omega))); done) | fail) (fun w h => h.subl (by first | ((repeat (first | exact SubL.nil | apply SubL.keep | apply SubL.skip)); done) | fail))
        · (repeat (first | (refine i_dst ?_; (first | (refine i_move ?_; refine l_q rfl rfl rfl (q_move rfl) ?_) | (refine i_assign ?_; refine l_q rfl rfl rfl (q_assign rfl) ?_) | (refine i_load ?_; refine l_q rfl rfl rfl (by (first | (exact q_ld1 tab rfl rfl rfl (by first | ((repeat (first | exact List.Mem.head _ | apply List.Mem.tail)); done) | fail) (by (rfl))) | exact q_ldcN tab rfl rfl rfl rfl (by assumption) rfl)) ?_) | (refine i_bin ?_; refine l_q rfl rfl rfl (by (first | exact q_lss rfl rfl | exact q_geq rfl rfl | exact q_add rfl rfl (by (first | exact wr_i64 (by omega) | rfl)) | exact q_sub rfl rfl (by (rfl)))) ?_) | (refine i_ix ?_; refine l_q rfl rfl rfl (by (exact q_indexAddr tab rfl rfl rfl rfl (by omega))) ?_) | (refine i_alloc ?_; (refine l_allocA tab rfl rfl (fun _ => ?_))) | (refine l_q rfl rfl rfl (by (first | (apply iq_fld; (exact q_fieldAddr tab rfl rfl rfl rfl rfl rfl rfl)) | (apply iq_cv; (exact q_conv tab rfl rfl rfl (by (exact wr_i64 (by omega))))) | exact q_pick_t rfl rfl | exact q_pick_f rfl rfl)) ?_))) | refine d_seq ?_ | refine c_region ?_ | refine l_nil ?_ | refine c_block ?_ | (refine i_q ?_; (first | refine d_then ?_ | refine t_then ?_ | refine t_block ?_)) | refine c_skip ?_ | (refine i_guard ?_; (first | refine l_gt rfl rfl rfl ?_ | refine l_gf rfl rfl rfl rfl rfl rfl ?_ | refine l_gfd rfl rfl rfl (by (exact decide_eq_false (by omega))) rfl rfl ?_)) | (refine i_store ?_; ((refine l_setN tab rfl rfl rfl rfl (List.cons_ne_nil _ _) rfl (by first | ((repeat (first | exact Upd.head | apply Upd.tail)); done) | fail) (by first | ((repeat (first | exact LSets.nil | exact LSet.zero | apply LSets.cons | apply LSet.succ)); done) | fail) ?_))) | (refine i_cond ?_; (first | refine c_ct rfl (by (exact decide_eq_true (by omega))) ?_ | refine c_cf rfl (by (rfl)) ?_))))
          exact k_again (k + 1) ⟨by omega, hno' (by simp [hitM, ← hq]; omega)⟩ (by omega) (by first | ((repeat (first | exact trivial | exact rfl | apply Sub.cons | exact look_int rfl (by omega) | exact look_int rfl (by simp) | exact look_int rfl (by simp; omega))); done) | fail) (fun w h => h.subl (by first | ((repeat (first | exact SubL.nil | apply SubL.keep | apply SubL.skip)); done) | fail))
  · have hkn : k = min n 4 := by omega
    (repeat (first | (refine i_dst ?_; (first | (refine i_assign ?_; refine l_q rfl rfl rfl (q_assign rfl) ?_) | (refine i_bin ?_; refine l_q rfl rfl rfl (by (exact q_lss rfl rfl)) ?_))) | refine d_seq ?_ | refine c_region ?_ | refine l_nil ?_ | (refine i_q ?_; (first | refine d_then ?_ | refine d_then_exit ?_ | refine t_then_exit ?_ | refine t_block_eq rfl ?_)) | refine c_exit ?_ | refine c_ret ?_ | (refine i_cond ?_; (refine c_cf rfl (by (exact decide_eq_false (by omega))) ?_))))
    refine t_ret3 Try.results56 rfl rfl rfl ⟨?_, rfl⟩
    rw [ofM_none (fun j l hj hl => hno j l (by rw [List.length_take] at hj; omega) hl)]
    rfl
end Go.Proofs.Ytidekbijkknlmaa

/-
  Layer 13: the document's queue (ref13): New, Next, walked.
-/
import Derived.Test.YtidekbijkknlmaaY8
import Derived.Test.YtidekbijkknlmaaYA
set_option linter.unusedVariables false
set_option maxRecDepth 100000
namespace Go.Proofs.Ytidekbijkknlmaa
open Go.RowKit
attribute [local irreducible] TL TC TQ TK TO Qt TA
structure QE where
  kind : Nat
  code : Nat
  v : Value
  b : List Int
def qeC (x : QE) : List Value := [.int .u8 x.kind, .int .u8 x.code, x.v]
def qeB (x : QE) : Asn := bytesA x.v x.b
structure QV where
  lv : Value
  es : List QE
  most : Nat
  l0 : Bool
  l1 : Bool
def qL (p : Nat) (q : QV) : List Asn := [blk p [.int .i64 q.most, q.lv, .bool q.l0, .bool q.l1, .bool false, .bool false] 58, row 32 3 q.lv q.es.length (q.es.flatMap qeC), starL (q.es.map qeB)]
def qA (p : Nat) (q : QV) : Asn := starL (qL p q)
theorem rowRep : RowT tab 23 32 3 32 (.agg #[.int .u8 0, .int .u8 0, .slice none 0 0]) := ⟨rfl, rfl, rfl, by decide⟩
section
variable {S : Nat → Prop} {w0 w : World} {p : Nat} {q : QV} {F : List Asn}
theorem q_open (h : St S w0 (qA p q :: F) w) : St S w0 (qL p q ++ F) w := st_unstar (l := qL p q) h
theorem q_shut (h : St S w0 (qL p q ++ F) w) : St S w0 (qA p q :: F) w := st_packs2 (Xs := qL p q) h
theorem star_cons {X : Asn} {l : List Asn} (h : St S w0 (starL (X :: l) :: F) w) : St S w0 (starL l :: X :: F) w := by
  have h1 : St S w0 (X :: (l ++ F)) w := st_unstar (l := X :: l) h
  exact st_packs2 (Xs := l) (h1.perm List.perm_middle.symm)
theorem row0_rep {g : Nat} (h : St S w0 (blk g [] 32 :: F) w) : St S w0 (row 32 3 (.slice (some ⟨g, 0, none⟩) 0 0) 0 [] :: F) w := row_shut (xs := []) (junk := []) (Nat.le_refl _) (Nat.zero_le _) rfl rfl h
end
theorem src_tail {w : World} {e : TypeId} {n c : Nat} {A : Option Addr} {x : QE} {xs : List QE} (hn : xs.length + 1 = n) (h : (row e 3 (.slice A n c) n ((x :: xs).flatMap qeC)).C w) : SrcAt w (cutA A c 1 3) ((n - 1) * 3) (xs.flatMap qeC) := by
  have hl : (xs.flatMap qeC).length = xs.length * 3 := flatF_len (f := qeC) (s := 3) (fun _ => rfl) xs
  refine ⟨by rw [hl]; congr 1; omega, fun hpos => ?_⟩
  obtain ⟨A', c', e1, e2, -⟩ := row_slice h
  injection e1 with e1 _ e3
  subst e1 e3
  obtain ⟨h1, h2⟩ := row_src h
  obtain ⟨b, o, rfl, hc⟩ := h2 (by omega)
  rw [cutA, if_neg (by omega)]
  refine ⟨b, o + 1 * 3, rfl, fun j u hu => ?_⟩
  have := hc (3 + j) u (by rw [List.flatMap_cons, List.getElem?_append_right (by simp [qeC])]; simpa [qeC] using hu)
  rw [show o + 1 * 3 + j = o + (3 + j) by omega]
  exact this
attribute [local irreducible] blk row bytesA starL memA segA roB
attribute [local irreducible] mapA partA gaA rgA qA
theorem qnew_spec (w : World) (m : Nat) (hm : 1 ≤ m ∧ m ≤ 64) : Calls Try.prog 18 #[.int .i64 m] w (Ret w [] fun v B => ∃ p, v = .tuple #[.pointer (some ⟨p, 0, none⟩), .int .i64 0] ∧ B = [qA p ⟨.slice none 0 0, [], m, false, false⟩]) := by
  refine enter (vs := [.int .i64 m]) Try.func18 rfl Try.ntmps18 rfl (Hold.nil w) ?_
  (repeat (first | (refine i_dst ?_; (first | (refine i_move ?_; refine l_q rfl rfl rfl (q_move rfl) ?_) | (refine i_assign ?_; refine l_q rfl rfl rfl (q_assign rfl) ?_) | (refine i_bin ?_; refine l_q rfl rfl rfl (by (first | exact q_lss rfl rfl | exact q_gtr rfl rfl)) ?_) | (refine i_box ?_; (refine l_boxA rfl rfl (fun _ => ?_))) | (refine l_q rfl rfl rfl (by (first | exact q_pick_f rfl rfl | (apply iq_bld; ((exact q_bld tab rfl rfl rfl (by first | ((repeat (first | exact FillR.nil | exact LSets.nil | exact LSet.zero | exact CellsOf.agg | exact rfl | exact CellsOf.one rfl | apply FillR.cons | apply LSets.cons | apply LSet.succ)); done) | fail) (fun w => by kernel_rfl)))))) ?_))) | refine d_seq ?_ | refine c_region ?_ | refine l_nil ?_ | (refine i_q ?_; (refine d_then ?_)) | refine c_skip ?_ | refine c_ret ?_ | (refine i_guard ?_; (first | refine l_gt rfl rfl rfl ?_ | (refine l_gtd rfl rfl rfl (by ((simp; omega))) ?_))) | (refine i_cond ?_; (refine c_cf rfl (by (exact decide_eq_false (by omega))) ?_))))
  rename_i p
  exact t_hp (hp' := [qA p ⟨.slice none 0 0, [], m, false, false⟩]) (fun w h => q_shut (F := []) ((st_nil (st_star0 h) 32 3).psub (by first | ((repeat (first | exact PSub.nil | exact Ext.head | apply Ext.tail | apply PSub.cons)); done) | fail))) (t_ret2 Try.results18 rfl rfl ⟨p, rfl, rfl⟩)

set_option maxHeartbeats 4000000 in
theorem qnext_spec {p : Nat} {q : QV} {w : World} (hA : Hold [qA p q] w) (hn : q.es.length ≤ 1000) : Calls Try.prog 20 #[.pointer (some ⟨p, 0, none⟩)] w (Ret w [qA p q] fun v B => (q.es = [] ∧ v = .tuple #[.agg #[.int .u8 0, .int .u8 0, .slice none 0 0], .bool false] ∧ B = [qA p q]) ∨ ∃ e es lv', q.es = e :: es ∧ v = .tuple #[.agg #[.int .u8 e.kind, .int .u8 e.code, e.v], .bool true] ∧ B = [qA p ⟨lv', es, q.most, q.l0, q.l1⟩, bytesA e.v e.b]) := by
  refine enter (vs := [.pointer (some ⟨p, 0, none⟩)]) Try.func20 rfl Try.ntmps20 rfl hA ?_
  have hmx : maxLen = 2 ^ 63 - 1 := rfl
  refine c_hp (hp' := qL p q) (fun w h => by have := q_open (F := []) h; rwa [List.append_nil] at this) ?_
  have hback : ∀ (F : List Asn) w', St (fps [qA p q]) w (qL p q ++ F) w' → St (fps [qA p q]) w (qA p q :: F) w' := fun F w' h => q_shut h
  obtain ⟨lv, es, most, l0, l1⟩ := q
  unfold qL at hback ⊢
  dsimp only at hn hback ⊢
  refine c_fact (p := ∃ A c, lv = .slice A es.length c ∧ es.length ≤ c ∧ c ≤ maxLen) (fun w h => ?_) ?_
  · obtain ⟨A, c, e1, e2, e3, -⟩ := row_slice (h.get (i := 1) rfl)
    exact ⟨A, c, e1, e2, e3⟩
  rintro ⟨A, c, rfl, hc1, hc2⟩
  cases es with
  | nil =>
    dsimp only [List.length_nil] at hback ⊢
    (repeat (first | (refine i_dst ?_; (first | (refine i_move ?_; refine l_q rfl rfl rfl (q_move rfl) ?_) | (refine i_assign ?_; refine l_q rfl rfl rfl (q_assign rfl) ?_) | (refine i_load ?_; refine l_q rfl rfl rfl (by ((exact q_ld1 tab rfl rfl rfl (by first | ((repeat (first | exact List.Mem.head _ | apply List.Mem.tail)); done) | fail) (by (rfl))))) ?_) | (refine i_bin ?_; refine l_q rfl rfl rfl (by (exact q_eql rfl rfl)) ?_) | (refine i_blt ?_; refine l_q rfl rfl rfl (by (exact q_len tab rfl rfl)) ?_) | (refine i_alloc ?_; (refine l_allocA tab rfl rfl (fun _ => ?_))) | (refine l_q rfl rfl rfl (by (first | (apply iq_fld; (exact q_fieldAddr tab rfl rfl rfl rfl rfl rfl rfl)) | (apply iq_nck; (exact q_nilck rfl)) | (apply iq_bld; ((exact q_bld tab rfl rfl rfl (by first | ((repeat (first | exact FillR.nil | exact LSets.nil | exact LSet.zero | exact CellsOf.agg | exact rfl | exact CellsOf.one rfl | apply FillR.cons | apply LSets.cons | apply LSet.succ)); done) | fail) (fun w => by kernel_rfl)))))) ?_))) | refine d_seq ?_ | refine c_region ?_ | refine l_nil ?_ | (refine i_q ?_; (first | refine d_then ?_ | refine d_then_ret ?_)) | refine c_ret ?_ | (refine i_store ?_; ((refine l_setN tab rfl rfl rfl rfl (List.cons_ne_nil _ _) rfl (by first | ((repeat (first | exact Upd.head | apply Upd.tail)); done) | fail) (by first | ((repeat (first | exact LSets.nil | exact LSet.zero | apply LSets.cons | apply LSet.succ)); done) | fail) ?_))) | (refine i_cond ?_; (refine c_ct rfl (by (rfl)) ?_))))
    exact t_ret2h (hp' := [qA p ⟨.slice A 0 c, [], most, l0, l1⟩]) Try.results20 (res_cellM tab rfl rfl rfl rfl (by first | ((repeat (first | exact List.Mem.head _ | apply List.Mem.tail)); done) | fail) rfl) rfl (fun w h => hback [] w (h.psub (by first | ((repeat (first | exact PSub.nil | exact Ext.head | apply Ext.tail | apply PSub.cons)); done) | fail))) (.inl ⟨rfl, rfl, rfl⟩)
  | cons e es =>
    have h0 : (e :: es)[0]? = some e := rfl
    rw [List.length_cons] at hn hc1 hback ⊢
    clear hback
    refine c_fact (p := ∃ Ae ce, e.v = .slice Ae e.b.length ce) (fun w h => by
      have h1 : (bytesA e.v e.b).C w := starL_get (h.mem (X := starL ((e :: es).map qeB)) (by first | ((repeat (first | exact List.Mem.head _ | apply List.Mem.tail)); done) | fail)) (i := 0) rfl
      obtain ⟨Ae, ce, e1, -⟩ := bytesA_ro h1
      exact ⟨Ae, ce, e1⟩) ?_
    rintro ⟨Ae, ce, hev⟩
    refine c_fact (p := ∀ u ∈ es.flatMap qeC, u.oneCell' = true) (fun w h u hu => by
      obtain ⟨x, hx, hu⟩ := List.mem_flatMap.1 hu
      obtain ⟨i, hi⟩ := List.getElem?_of_mem hx
      have h1 : (bytesA x.v x.b).C w := starL_get (h.mem (X := starL ((e :: es).map qeB)) (by first | ((repeat (first | exact List.Mem.head _ | apply List.Mem.tail)); done) | fail)) (i := i + 1) (by simp [hi, qeB])
      obtain ⟨Ax, cx, e1, -⟩ := bytesA_ro h1
      simp [qeC] at hu
      rcases hu with rfl | rfl | rfl
      · rfl
      · rfl
      · rw [e1]; rfl) ?_
    intro hone
    obtain ⟨kd, cd, ev, eb⟩ := e
    dsimp only at hev
    subst hev
    (repeat (first | (refine i_dst ?_; (first | (refine i_move ?_; refine l_q rfl rfl rfl (q_move rfl) ?_) | (refine i_assign ?_; refine l_q rfl rfl rfl (q_assign rfl) ?_) | (refine i_load ?_; refine l_q rfl rfl rfl (by (first | (exact q_ld1 tab rfl rfl rfl (by first | ((repeat (first | exact List.Mem.head _ | apply List.Mem.tail)); done) | fail) (by (rfl))) | (exact q_ldFN tab rfl rfl rfl rfl (by ((exact fun w h => row_src (h.mem (by first | ((repeat (first | exact List.Mem.head _ | apply List.Mem.tail)); done) | fail))))) (by exact fun _ => rfl) (by assumption) (by exact rfl) (by exact List.cons_ne_nil _ _)))) ?_) | (refine i_bin ?_; refine l_q rfl rfl rfl (by (exact q_eql rfl rfl)) ?_) | (refine i_blt ?_; refine l_q rfl rfl rfl (by (exact q_len tab rfl rfl)) ?_) | (refine i_ix ?_; refine l_q rfl rfl rfl (by ((exact q_ixSN tab rfl rfl rfl rfl (by ((exact fun w h => row_src (h.mem (by first | ((repeat (first | exact List.Mem.head _ | apply List.Mem.tail)); done) | fail))))) (by first | (with_reducible exact Int.toNat_natCast _) | (with_reducible exact Int.toNat_zero) | (with_reducible exact Int.toNat_one) | rfl) (by (omega)) (by (omega))))) ?_) | (refine i_sl ?_; refine l_q rfl rfl rfl (by (exact q_slLo tab rfl rfl rfl rfl (by first | (with_reducible exact Int.toNat_natCast _) | (with_reducible exact Int.toNat_zero) | (with_reducible exact Int.toNat_one) | rfl) (by (omega)))) ?_) | (refine i_alloc ?_; (refine l_allocA tab rfl rfl (fun _ => ?_))) | (refine i_bldS ?_; refine l_bldS tab rfl rfl rfl rfl (by first | exact CellsOf.agg | exact CellsOf.one rfl) (by first | ((repeat (first | exact RepR.zero | exact AppR.nil | apply RepR.succ | apply AppR.cons)); done) | fail) (by first | ((repeat (first | exact FillR.nil | exact LSets.nil | exact LSet.zero | exact CellsOf.agg | exact rfl | exact CellsOf.one rfl | apply FillR.cons | apply LSets.cons | apply LSet.succ)); done) | fail) (fun w => by kernel_rfl) (fun _ => ?_)) | (refine l_q rfl rfl rfl (by (first | (apply iq_fld; (exact q_fieldAddr tab rfl rfl rfl rfl rfl rfl rfl)) | (apply iq_nck; (exact q_nilck rfl)))) ?_))) | refine d_seq ?_ | refine c_region ?_ | refine l_nil ?_ | (refine i_q ?_; (refine d_then ?_)) | refine c_skip ?_ | (refine i_store ?_; ((refine l_setN tab rfl rfl rfl rfl (List.cons_ne_nil _ _) rfl (by first | ((repeat (first | exact Upd.head | apply Upd.tail)); done) | fail) (by first | ((repeat (first | exact LSets.nil | exact LSet.zero | apply LSets.cons | apply LSet.succ)); done) | fail) ?_))) | (refine i_cond ?_; (refine c_cf rfl (by (rfl)) ?_))))
    rename_i b2 b4 g19
    refine l_hp (hp' := [row 32 3 (.slice (some ⟨g19, 0, none⟩) 0 0) 0 [], blk b4 [.int .u8 kd, .int .u8 cd, .slice Ae eb.length ce] 32, blk b2 [.int .u8 0, .int .u8 0, .slice none 0 0] 32, blk p [.int .i64 most, .slice A (es.length + 1) c, .bool l0, .bool l1, .bool false, .bool false] 58, row 32 3 (.slice A (es.length + 1) c) (es.length + 1) ((⟨kd, cd, .slice Ae eb.length ce, eb⟩ :: es).flatMap qeC), starL ((⟨kd, cd, .slice Ae eb.length ce, eb⟩ :: es).map qeB)]) (fun w h => (row0_rep (h.ext (X := blk g19 [] _) (by first | ((repeat (first | exact Ext.head | apply Ext.tail)); done) | fail))).psub (by first | ((repeat (first | exact PSub.nil | exact Ext.head | apply Ext.tail | apply PSub.cons)); done) | fail)) ?_
    (refine l_app tab rfl rfl rfl rowRep (by first | ((repeat (first | exact Ext.head | apply Ext.tail)); done) | fail) (news := es.flatMap qeC) (fun w h => src_tail rfl (h.mem (X := row _ 3 (.slice A (es.length + 1) c) (es.length + 1) _) (by first | ((repeat (first | exact List.Mem.head _ | apply List.Mem.tail)); done) | fail))) (fun u hu => (by
      have : u ∈ es.flatMap qeC := hu
      exact hone u this)) (by omega) (by omega) (fun A6 c6 hA1 hA2 => ?_))
    rw [Nat.zero_add, List.nil_append]
    (repeat (first | (refine i_dst ?_; (first | (refine i_assign ?_; refine l_q rfl rfl rfl (q_assign rfl) ?_) | (refine i_load ?_; refine l_q rfl rfl rfl (by ((exact q_ldN tab rfl rfl rfl rfl (by first | ((repeat (first | exact List.Mem.head _ | apply List.Mem.tail)); done) | fail) (by first | ((repeat (first | exact TakeR.nil | apply TakeR.cons | apply CutR.zero | apply CutR.skip)); done) | fail)))) ?_) | (refine l_q rfl rfl rfl (by (first | (apply iq_fld; (exact q_fieldAddr tab rfl rfl rfl rfl rfl rfl rfl)) | (apply iq_nck; (exact q_nilck rfl)))) ?_))) | refine d_seq ?_ | refine c_region ?_ | refine l_nil ?_ | (refine i_q ?_; (refine d_then ?_)) | refine c_ret ?_ | (refine i_store ?_; (first | (refine l_set tab rfl rfl rfl rfl (by first | ((repeat (first | exact Upd.head | apply Upd.tail)); done) | fail) (by first | ((repeat (first | exact LSet.zero | apply LSet.succ)); done) | fail) ?_) | (refine l_setN tab rfl rfl rfl rfl (List.cons_ne_nil _ _) rfl (by first | ((repeat (first | exact Upd.head | apply Upd.tail)); done) | fail) (by first | ((repeat (first | exact LSets.nil | exact LSet.zero | apply LSets.cons | apply LSet.succ)); done) | fail) ?_)))))
    rw [Nat.add_sub_cancel]
    refine t_ret2h (hp' := [qA p ⟨.slice A6 es.length c6, es, most, l0, l1⟩, bytesA (.slice Ae eb.length ce) eb]) Try.results20 (res_cellM (l := [.int .u8 kd, .int .u8 cd, .slice Ae eb.length ce]) tab rfl rfl rfl rfl (by first | ((repeat (first | exact List.Mem.head _ | apply List.Mem.tail)); done) | fail) rfl) rfl (fun w h => ?_) (.inr ⟨_, es, _, rfl, rfl, rfl⟩)
    have h1 := star_cons (h.ext (X := starL ((⟨kd, cd, .slice Ae eb.length ce, eb⟩ :: es).map qeB)) (by first | ((repeat (first | exact Ext.head | apply Ext.tail)); done) | fail))
    exact q_shut (q := ⟨.slice A6 es.length c6, es, most, l0, l1⟩) (F := [bytesA (.slice Ae eb.length ce) eb]) (h1.psub (by first | ((repeat (first | exact PSub.nil | exact Ext.head | apply Ext.tail | apply PSub.cons)); done) | fail))
end Go.Proofs.Ytidekbijkknlmaa

/-
  The reference of layer 14: Apply, walked.
-/
import Derived.Test.YtkeekkdaielipaaT5
import Derived.Test.YtkeekkdaielipaaT6
import Derived.Test.YtkeekkdaielipaaS5
import Derived.Test.YtkeekkdaielipaaR4
set_option linter.unusedVariables false
set_option maxRecDepth 100000
namespace Go.Proofs.Ytkeekkdaielipaa
open Go.RowKit
attribute [local irreducible] TL TC TQ TK TO Qt TA

def RApplyOut (p q : Nat) (r : Sm × Mm × Bool) (v : Value) (B : List Asn) : Prop := ∃ x' y', v = .bool r.2.2 ∧ B = [stimA rT p x', refA q y'] ∧ absS x' = r.1 ∧ y'.abs = r.2.1
theorem ref_open {S : Nat → Prop} {w0 w : World} {q : Nat} {x : RefV} {F : List Asn} (h : St S w0 (refA q x :: F) w) : St S w0 (blk q [x.m.rv, x.m.sv, x.ev] 97 :: bytesA x.m.rv x.m.ram :: row 30 1 x.m.sv x.m.segs.length (x.m.segs.map (·.pv)) :: row 43 2 x.ev x.m.segs.length (sees x.m.segs) :: starL (x.m.segs.map rsegA) :: F) w := st_unstar (l := refL q x) h
attribute [local irreducible] blk row bytesA starL memA segA roB

attribute [local irreducible] stimA partA refA rsegA sees refL

set_option maxHeartbeats 8000000 in
theorem rapply_spec {p q : Nat} {x : List PartV} {m : RefV} {w : World} (hA : Hold [stimA rT p x, refA q m] w) (hk : MmOk m.abs) (list : Int) (v : List Value) (l : ListI) (hl : InList (fps [stimA rT p x, refA q m]) w v l) (hsm : SmallL l) :
    Calls Try.prog 35 #[.pointer (some ⟨p, 0, none⟩), .pointer (some ⟨q, 0, none⟩), .int .i64 list, .agg v.toArray] w (Ret w [stimA rT p x, refA q m] (RApplyOut p q (applyS (absS x) m.abs list l.tabs))) := by
  have hx4 : x.length = 4 := stim_len (t := rT) (p := p) (hA.all _ (by simp))
  have hl0 := hl
  obtain ⟨⟨A, n, c, rfl, htab, hnc, hcm⟩, hl1, hl2, hl3, hl4⟩ := hl
  have htl := htab.len
  have hs1 := hsm.1
  have hmx : maxLen = 2 ^ 63 - 1 := rfl
  refine enter (vs := [.pointer (some ⟨p, 0, none⟩), .pointer (some ⟨q, 0, none⟩), .int .i64 list, .agg #[.int .i64 l.first, .slice A n c, .bool l.stim, .int .u8 l.ev, .int .u8 l.pre, .int .u8 l.pri, .bool l.on, .bool l.ch]]) Try.func35 rfl Try.ntmps35 rfl hA ?_
  generalize hS : fps [stimA rT p x, refA q m] = S0 at hl0 htab
  (repeat (first | (refine i_dst ?_; (first | (refine i_move ?_; refine l_q rfl rfl rfl (q_move rfl) ?_) | (refine i_assign ?_; refine l_q rfl rfl rfl (q_assign rfl) ?_) | (refine i_load ?_; refine l_q rfl rfl rfl (by ((exact q_ldN tab rfl rfl rfl rfl (by first | ((repeat (first | exact List.Mem.head _ | apply List.Mem.tail)); done) | fail) (by first | ((repeat (first | exact TakeR.nil | apply TakeR.cons | apply CutR.zero | apply CutR.skip)); done) | fail)))) ?_) | (refine i_box ?_; (refine l_boxA rfl rfl (fun _ => ?_))))) | refine d_seq ?_ | refine c_region ?_ | refine l_nil ?_ | (refine i_q ?_; (refine d_then ?_))))
  rename_i b7
  (refine l_call0 rfl rfl Try.func34 rfl (by decide) (fun w' h => rfull_spec (x := x) (Ro.empty (h.mem (by first | ((repeat (first | exact List.Mem.head _ | apply List.Mem.tail)); done) | fail))) list _ l (hl0.to (fun r hr => roOf0 h hr))) (fun v B hv => ?_); obtain ⟨rfl, rfl⟩ := hv)
  cases hf : fullS (absS x) list l.tabs with
  | false =>
    have et : applyS (absS x) m.abs list l.tabs = (absS x, m.abs, false) := by rw [applyS, hf]; rfl
    rw [et]
    (repeat (first | (refine i_dst ?_; (first | (refine i_assign ?_; refine l_q rfl rfl rfl (q_assign rfl) ?_) | refine l_q rfl rfl rfl (by (exact q_not rfl)) ?_)) | refine d_seq ?_ | refine c_region ?_ | refine l_nil ?_ | (refine i_q ?_; (first | refine d_then ?_ | refine d_then_ret ?_)) | refine c_ret ?_ | (refine i_cond ?_; (refine c_ct rfl (by (rfl)) ?_))))
    subst hS
    exact t_hp (hp' := [stimA rT p x, refA q m]) (fun w h => h.psub (by first | ((repeat (first | exact PSub.nil | exact Ext.head | apply Ext.tail | apply PSub.cons)); done) | fail)) (t_ret1 Try.results35 rfl ⟨x, m, rfl, rfl, rfl, rfl⟩)
  | true =>
    have hf' := hf
    simp only [fullS, decide_eq_true_eq] at hf'
    obtain ⟨i, rfl⟩ : ∃ i : Nat, list = i := ⟨list.toNat, by omega⟩
    rw [Int.toNat_natCast] at hf'
    obtain ⟨y, hy⟩ : ∃ y, x[i]? = some y := ⟨_, List.getElem?_eq_getElem (by omega)⟩
    rw [absS_get hy] at hf'
    have et : applyS (absS x) m.abs i l.tabs = ((absS x).set i [], (match writesM m.abs l.tabs y.bs with | some M' => M' | none => m.abs), (writesM m.abs l.tabs y.bs).isSome) := by
      rw [applyS, hf, if_pos rfl, Int.toNat_natCast, absS_get hy]
      cases writesM m.abs l.tabs y.bs <;> rfl
    rw [et]
    have hyl := hf'.2.2.2
    (repeat (first | (refine i_dst ?_; (first | (refine i_move ?_; refine l_q rfl rfl rfl (q_move rfl) ?_) | (refine i_ix ?_; refine l_q rfl rfl rfl (by (exact q_indexAddrA1 tab rfl rfl rfl rfl (by omega))) ?_) | (refine l_q rfl rfl rfl (by (first | (apply iq_fld; (exact q_fieldAddr tab rfl rfl rfl rfl rfl rfl rfl)) | (apply iq_nck; (exact q_nilck rfl)) | exact q_not rfl)) ?_))) | refine d_seq ?_ | refine c_region ?_ | refine l_nil ?_ | (refine i_q ?_; (refine d_then ?_)) | refine c_skip ?_ | (refine i_cond ?_; (refine c_cf rfl (by (rfl)) ?_))))
    refine l_hp (hp' := partA y :: blk p (x.map (·.v)) rT :: starL ((x.map partA).set i emp) :: starL [emp, pureA (x.length = 4), emp] :: [blk b7 [.int .i64 l.first, .slice A n c, .bool l.stim, .int .u8 l.ev, .int .u8 l.pre, .int .u8 l.pri, .bool l.on, .bool l.ch] 42, refA q m]) (fun w h => (stim_focus hy (h.ext (by first | ((repeat (first | exact Ext.head | apply Ext.tail)); done) | fail))).psub (by first | ((repeat (first | exact PSub.nil | exact Ext.head | apply Ext.tail | apply PSub.cons)); done) | fail)) ?_
    refine l_fact (p := ∃ Ay cy, y.v = .slice Ay y.bs.length cy ∧ y.bs.length ≤ cy ∧ cy ≤ maxLen ∧ y.vs.length = y.bs.length) (fun w h => part_v (h.get (i := 0) rfl)) ?_
    rintro ⟨Ay, cy, hyv, hy2, hy3, hy4⟩
    have hv : (x.map (·.v))[0 + 0 + (i : Int).toNat]? = some (.slice Ay y.bs.length cy) := by simp [hy, hyv]
    have hmx' : 0 + 0 + (i : Int).toNat < (x.map (·.v)).length := by rw [List.length_map]; omega
    have e0 : 0 + 0 + (i : Int).toNat = i := by omega
    (repeat (first | (refine i_dst ?_; (first | (refine i_move ?_; refine l_q rfl rfl rfl (q_move rfl) ?_) | (refine i_assign ?_; refine l_q rfl rfl rfl (q_assign rfl) ?_) | (refine i_load ?_; refine l_q rfl rfl rfl (by ((exact q_ld1 tab rfl rfl rfl (by first | ((repeat (first | exact List.Mem.head _ | apply List.Mem.tail)); done) | fail) (by (assumption))))) ?_) | (refine i_ix ?_; refine l_q rfl rfl rfl (by (exact q_indexAddrA1 tab rfl rfl rfl rfl (by omega))) ?_) | (refine l_q rfl rfl rfl (by (first | (apply iq_fld; (exact q_fieldAddr tab rfl rfl rfl rfl rfl rfl rfl)) | (apply iq_nck; (exact q_nilck rfl)))) ?_))) | refine d_seq ?_ | refine c_region ?_ | refine l_nil ?_ | (refine i_q ?_; (refine d_then ?_)) | (refine i_store ?_; ((refine l_setI tab rfl rfl rfl rfl (by first | ((repeat (first | exact Upd.head | apply Upd.tail)); done) | fail) (by (omega)) ?_)))))
    (refine l_call0 rfl rfl Try.func58 rfl (by decide) (fun w' h => rclone_spec (x := m) (Ro.empty (h.mem (X := refA q m) (by first | ((repeat (first | exact List.Mem.head _ | apply List.Mem.tail)); done) | fail))) hk) (fun v B hv => ?_); obtain ⟨q2, m0, rfl, rfl, hm0⟩ := hv)
    have hk2 : MmOk m0.abs := by rw [hm0]; exact hk
    refine l_hp (hp' := row 23 1 (.slice Ay y.bs.length cy) y.bs.length y.vs :: starL (List.zipWith bytesA y.vs y.bs) :: [refA q2 m0, blk p ((x.map (·.v)).set i (.slice none 0 0)) rT, starL ((x.map partA).set i emp), starL [emp, pureA (x.length = 4), emp], blk b7 [.int .i64 l.first, .slice A n c, .bool l.stim, .int .u8 l.ev, .int .u8 l.pre, .int .u8 l.pri, .bool l.on, .bool l.ch] 42, refA q m]) (fun w h => by
      rw [e0] at h
      rw [← hyv, ← hy4]
      exact (part_open (h.ext (X := partA y) (by first | ((repeat (first | exact Ext.head | apply Ext.tail)); done) | fail))).psub (by first | ((repeat (first | exact PSub.nil | exact Ext.head | apply Ext.tail | apply PSub.cons)); done) | fail)) ?_
    (repeat (first | (refine i_dst ?_; ((refine i_assign ?_; refine l_q rfl rfl rfl (q_assign rfl) ?_))) | refine d_seq ?_ | refine c_region ?_ | refine l_nil ?_ | refine c_block ?_ | (refine i_q ?_; (refine d_then ?_))))
    clear hv hmx'
    refine d_loop (T := Nat × RefV) [1, 7, 9, 10] (fun t => [(11, .int .i64 t.1)]) [row 23 1 (.slice Ay y.bs.length cy) y.bs.length y.vs, starL (List.zipWith bytesA y.vs y.bs), blk p ((x.map (·.v)).set i (.slice none 0 0)) rT, starL ((x.map partA).set i emp), starL [emp, pureA (x.length = 4), emp], blk b7 [.int .i64 l.first, .slice A n c, .bool l.stim, .int .u8 l.ev, .int .u8 l.pre, .int .u8 l.pri, .bool l.on, .bool l.ch] 42, refA q m] (fun t => [refA q2 t.2]) (fun t => t.1 ≤ n ∧ MmOk t.2.abs ∧ ((l.tabs.zip y.bs).take t.1).foldlM stepT m.abs = some t.2.abs) (fun t => n - t.1) (0, m0) (by first | ((repeat (first | exact Pick.nil | exact rfl | apply Pick.cons)); done) | fail) ⟨Nat.zero_le _, hk2, by dsimp only; rw [hm0]; rfl⟩ (by first | ((repeat (first | exact trivial | exact rfl | apply Sub.cons | exact look_int rfl (by omega) | exact look_int rfl (by simp) | exact look_int rfl (by simp; omega))); done) | fail) (fun w h => h.psub (by first | ((repeat (first | exact PSub.nil | exact Ext.head | apply Ext.tail | apply PSub.cons)); done) | fail)) ?_
    clear hk2 hm0 m0
    rintro ⟨k, m1⟩ ⟨hkn, hkm, hfo⟩
    dsimp only at hkn hkm hfo ⊢
    by_cases hlt : k < n
    · obtain ⟨t, ht⟩ : ∃ t, l.tabs[k]? = some t := ⟨_, List.getElem?_eq_getElem (by omega)⟩
      obtain ⟨b, hb⟩ : ∃ b, y.bs[k]? = some b := ⟨_, List.getElem?_eq_getElem (by omega)⟩
      obtain ⟨u, hu⟩ : ∃ u, y.vs[k]? = some u := ⟨_, List.getElem?_eq_getElem (by omega)⟩
      have hzb : (List.zipWith bytesA y.vs y.bs)[k]? = some (bytesA u b) := by simp [List.getElem?_zipWith, hu, hb]
      refine c_fact (p := ∃ B cb, u = .slice B b.length cb ∧ b.length ≤ cb ∧ cb ≤ maxLen) (fun w h => ?_) ?_
      · obtain ⟨B, cb, e1, e2, e3, -⟩ := bytesA_ro (starL_get (h.mem (X := starL (List.zipWith bytesA y.vs y.bs)) (by first | ((repeat (first | exact List.Mem.head _ | apply List.Mem.tail)); done) | fail)) hzb)
        exact ⟨B, cb, e1, e2, e3⟩
      rintro ⟨B, cb, rfl, hb1, hb2⟩
      obtain ⟨bT, oT, r2, rfl, hrl2, hT, hcell2⟩ := htab.get (by omega) ht
      obtain ⟨Ae, ne, ce, rfl, hE, he1, he2⟩ := hT
      have hel := hE.len
      have ht1000 := hsm.2 t (List.mem_of_getElem? ht)
      have hz := zip_get ht hb
      have hc2 : ∀ hp w', St S0 w hp w' → w'.cell? ⟨bT, oT + (k : Int).toNat, none⟩ = some (.slice Ae ne ce) := fun hp w' h => by
        have := (hcell2 hp w' h) 0 _ rfl
        simpa using this
      clear hcell2
      (repeat (first | (refine i_dst ?_; (first | (refine i_move ?_; refine l_q rfl rfl rfl (q_move rfl) ?_) | (refine i_assign ?_; refine l_q rfl rfl rfl (q_assign rfl) ?_) | (refine i_load ?_; refine l_q rfl rfl rfl (by (first | (exact q_ld1 tab rfl rfl rfl (by first | ((repeat (first | exact List.Mem.head _ | apply List.Mem.tail)); done) | fail) (by (rfl))) | (exact q_ldS tab rfl rfl rfl (by ((exact fun w h => row_src (h.mem (by first | ((repeat (first | exact List.Mem.head _ | apply List.Mem.tail)); done) | fail))))) (by (assumption))) | exact q_ldc tab rfl rfl rfl (by assumption))) ?_) | (refine i_bin ?_; refine l_q rfl rfl rfl (by (exact q_lss rfl rfl)) ?_) | (refine i_blt ?_; refine l_q rfl rfl rfl (by (exact q_len tab rfl rfl)) ?_) | (refine i_ix ?_; refine l_q rfl rfl rfl (by (first | exact q_indexAddr1 tab rfl rfl rfl rfl (by omega) | (exact q_ixS1 tab rfl rfl rfl rfl (by ((exact fun w h => row_src (h.mem (by first | ((repeat (first | exact List.Mem.head _ | apply List.Mem.tail)); done) | fail))))) (by first | (with_reducible exact Int.toNat_natCast _) | (with_reducible exact Int.toNat_zero) | (with_reducible exact Int.toNat_one) | rfl) (by (omega)) (by (omega))))) ?_) | (refine l_q rfl rfl rfl (by ((apply iq_fld; (exact q_fieldAddr tab rfl rfl rfl rfl rfl rfl rfl)))) ?_))) | refine d_seq ?_ | refine c_region ?_ | refine l_nil ?_ | refine c_block ?_ | (refine i_q ?_; (refine d_then ?_)) | refine c_skip ?_ | (refine i_cond ?_; (refine c_ct rfl (by (exact decide_eq_true (by omega))) ?_))))
      (refine l_call0 rfl rfl Try.func57 rfl (by decide) (fun w' h => rneeds_spec (hE.to (fun r hr => roOf0 h hr) (fun _ _ hx => hx)) (by omega)) (fun v B hv => ?_); obtain ⟨rfl, rfl⟩ := hv)
      by_cases hbn : b.length < needsM t
      · have hno : writesM m.abs l.tabs y.bs = none := foldlM_stop (k := k + 1) (by rw [foldlM_take hz hfo, stepT, if_pos hbn])
        (repeat (first | (refine i_dst ?_; (first | (refine i_assign ?_; refine l_q rfl rfl rfl (q_assign rfl) ?_) | (refine i_bin ?_; refine l_q rfl rfl rfl (by (exact q_lss rfl rfl)) ?_))) | refine d_seq ?_ | refine c_region ?_ | refine l_nil ?_ | (refine i_q ?_; (first | refine d_then ?_ | refine d_then_ret ?_ | refine t_then_ret ?_ | refine t_block_ret ?_)) | refine c_ret ?_ | (refine i_cond ?_; (refine c_ct rfl (by (exact decide_eq_true (by omega))) ?_))))
        subst hS
        refine t_hp (hp' := [stimA rT p (x.set i nilP), refA q m]) (fun w h => ?_) (t_ret1 Try.results35 rfl ⟨_, m, by rw [hno]; rfl, rfl, by rw [absS_set]; rfl, by rw [hno]⟩)
        exact stim_unfocus (by omega) (part_nil (h.psub (by first | ((repeat (first | exact PSub.nil | exact Ext.head | apply Ext.tail | apply PSub.cons)); done) | fail)))
      · (repeat (first | (refine i_dst ?_; (first | (refine i_assign ?_; refine l_q rfl rfl rfl (q_assign rfl) ?_) | (refine i_bin ?_; refine l_q rfl rfl rfl (by (exact q_lss rfl rfl)) ?_))) | refine d_seq ?_ | refine c_region ?_ | refine l_nil ?_ | refine c_block ?_ | (refine i_q ?_; (refine d_then ?_)) | refine c_skip ?_ | (refine i_cond ?_; (refine c_cf rfl (by (exact decide_eq_false (by omega))) ?_))))
        refine d_loop (T := Nat × RefV × Option Addr × Nat) [1, 7, 9, 10, 11] (fun t' => [(13, .int .i64 t'.1), (12, .slice t'.2.2.1 (b.length - needsM (t.take t'.1)) t'.2.2.2)]) [row 23 1 (.slice Ay y.bs.length cy) y.bs.length y.vs, starL (List.zipWith bytesA y.vs y.bs), blk p ((x.map (·.v)).set i (.slice none 0 0)) rT, starL ((x.map partA).set i emp), starL [emp, pureA (x.length = 4), emp], blk b7 [.int .i64 l.first, .slice (some ⟨bT, oT, none⟩) n c, .bool l.stim, .int .u8 l.ev, .int .u8 l.pre, .int .u8 l.pri, .bool l.on, .bool l.ch] 42, refA q m] (fun t' => [refA q2 t'.2.1])
          (fun t' => t'.1 ≤ ne ∧ MmOk t'.2.1.abs ∧ (t.take t'.1).foldlM stepE (m1.abs, b) = some (t'.2.1.abs, b.drop (needsM (t.take t'.1))) ∧ (∀ S' w', Ro S' w' (roB B b.length b) → Ro S' w' (roB t'.2.2.1 (b.length - needsM (t.take t'.1)) (b.drop (needsM (t.take t'.1))))) ∧ b.length - needsM (t.take t'.1) ≤ t'.2.2.2 ∧ t'.2.2.2 ≤ maxLen)
          (fun t' => ne - t'.1) (0, m1, B, cb) (by first | ((repeat (first | exact Pick.nil | exact rfl | apply Pick.cons)); done) | fail) ⟨Nat.zero_le _, hkm, rfl, fun S' w' h => by simpa [needsM] using h, by simpa [needsM] using hb1, hb2⟩ (by first | ((repeat (first | exact trivial | exact rfl | apply Sub.cons | exact look_int rfl (by omega) | exact look_int rfl (by simp) | exact look_int rfl (by simp; omega))); done) | fail) (fun w h => h.psub (by first | ((repeat (first | exact PSub.nil | exact Ext.head | apply Ext.tail | apply PSub.cons)); done) | fail)) ?_
        rintro ⟨j, m2, Bj, cj⟩ ⟨hj, hk2, hf2, hro, hcj, hcj2⟩
        dsimp only at hj hk2 hf2 hro hcj hcj2 ⊢
        by_cases hjlt : j < ne
        · obtain ⟨e, he⟩ : ∃ e, t[j]? = some e := ⟨_, List.getElem?_eq_getElem (by omega)⟩
          obtain ⟨bE, oE, r3, rfl, hrl3, ⟨rfl, e1, e2, e3⟩, hcell3⟩ := hE.get (by omega) he
          have hst := needsM_take he
          have hle := needsM_le (t := t) (k := j + 1)
          obtain ⟨off, hoff⟩ : ∃ off, off = needsM (t.take j) := ⟨_, rfl⟩
          rw [← hoff] at hro hcj hf2 hst ⊢
          (repeat (first | (refine i_dst ?_; (first | (refine i_move ?_; refine l_q rfl rfl rfl (q_move rfl) ?_) | (refine i_load ?_; refine l_q rfl rfl rfl (by (first | (exact q_ld1 tab rfl rfl rfl (by first | ((repeat (first | exact List.Mem.head _ | apply List.Mem.tail)); done) | fail) (by (rfl))) | exact q_ldc tab rfl rfl rfl (by assumption) | exact q_ldcN tab rfl rfl rfl rfl (by assumption) rfl)) ?_) | (refine i_bin ?_; refine l_q rfl rfl rfl (by (exact q_lss rfl rfl)) ?_) | (refine i_blt ?_; refine l_q rfl rfl rfl (by (exact q_len tab rfl rfl)) ?_) | (refine i_ix ?_; refine l_q rfl rfl rfl (by (first | exact q_indexAddr1 tab rfl rfl rfl rfl (by omega) | exact q_indexAddr tab rfl rfl rfl rfl (by omega))) ?_) | (refine i_alloc ?_; (refine l_allocA tab rfl rfl (fun _ => ?_))) | (refine l_q rfl rfl rfl (by ((apply iq_fld; (exact q_fieldAddr tab rfl rfl rfl rfl rfl rfl rfl)))) ?_))) | refine d_seq ?_ | refine c_region ?_ | refine l_nil ?_ | refine c_block ?_ | (refine i_q ?_; (refine d_then ?_)) | refine c_skip ?_ | (refine i_store ?_; ((refine l_setN tab rfl rfl rfl rfl (List.cons_ne_nil _ _) rfl (by first | ((repeat (first | exact Upd.head | apply Upd.tail)); done) | fail) (by first | ((repeat (first | exact LSets.nil | exact LSet.zero | apply LSets.cons | apply LSet.succ)); done) | fail) ?_))) | (refine i_cond ?_; (refine c_ct rfl (by (exact decide_eq_true (by omega))) ?_))))
          rename_i b14
          (refine a_begin mixed [blk b14 [.int .u8 e.size, .int .u8 e.area, .int .u32 e.at_] 38] 11 rfl (fun w h => h.subl (by first | ((repeat (first | exact SubL.nil | apply SubL.keep | apply SubL.skip)); done) | fail)) ?_)
          ((refine a_q 0 rfl rfl rfl rfl rfl (by decide +kernel) (q_move rfl) ?_; refine a_q 1 rfl rfl rfl rfl rfl (by decide +kernel) (by ((apply iq_fld; (exact q_fieldAddr tab rfl rfl rfl rfl rfl rfl rfl)))) ?_; ((refine a_q 2 rfl rfl rfl rfl rfl (by decide +kernel) (by ((exact q_ld1 tab rfl rfl rfl (by first | ((repeat (first | exact List.Mem.head _ | apply List.Mem.tail)); done) | fail) (by (rfl))))) ?_)); refine a_q 3 rfl rfl rfl rfl rfl (by decide +kernel) (by ((apply iq_fld; (exact q_fieldAddr tab rfl rfl rfl rfl rfl rfl rfl)))) ?_; ((refine a_q 4 rfl rfl rfl rfl rfl (by decide +kernel) (by ((exact q_ld1 tab rfl rfl rfl (by first | ((repeat (first | exact List.Mem.head _ | apply List.Mem.tail)); done) | fail) (by (rfl))))) ?_)); refine a_q 5 rfl rfl rfl rfl rfl (by decide +kernel) (q_move rfl) ?_; refine a_q 6 rfl rfl rfl rfl rfl (by decide +kernel) (by ((apply iq_fld; (exact q_fieldAddr tab rfl rfl rfl rfl rfl rfl rfl)))) ?_; ((refine a_q 7 rfl rfl rfl rfl rfl (by decide +kernel) (by ((exact q_ld1 tab rfl rfl rfl (by first | ((repeat (first | exact List.Mem.head _ | apply List.Mem.tail)); done) | fail) (by (rfl))))) ?_)); refine a_q 8 rfl rfl rfl rfl rfl (by decide +kernel) (by (exact q_slHi tab rfl rfl rfl rfl (by first | (with_reducible exact Int.toNat_natCast _) | (with_reducible exact Int.toNat_zero) | (with_reducible exact Int.toNat_one) | rfl) (by (omega)))) ?_))
          (refine a_e 9 rfl (by decide +kernel) rfl (fun K hK => e_call1 (X := refA q2 m2) (by first | ((repeat (first | exact Ext.head | apply Ext.tail)); done) | fail) rfl rfl Try.func41 rfl (by decide) (fun w' h => rwrite_spec h.split hk2 1 e.area e.at_ Bj e.size cj ((b.drop off).take e.size) ((hro _ _ (Ro.bytes (Ro.star (h.roHp (A := [refA q2 m2]) (Y := starL (List.zipWith bytesA y.vs y.bs)) (by first | ((repeat (first | exact List.Mem.head _ | apply List.Mem.tail)); done) | fail)) hzb))).take (k := e.size) (by omega)) (by omega) (by omega) e2 (by omega) (by omega)) (fun v B hv => ?_)); obtain ⟨m3, rfl, hm3, rfl⟩ := hv; refine hK _ _ (fun w h => h.subl (by first | ((repeat (first | exact SubL.nil | apply SubL.keep | apply SubL.skip)); done) | fail)) ?_; clear hK)
          have hk3 : MmOk m3.abs := by rw [hm3]; exact writeM_ok hk2 (by omega)
          ((refine a_q 10 rfl rfl rfl rfl rfl (by decide +kernel) (by (exact q_neq rfl rfl)) ?_))
          refine a_done (by decide +kernel) ?_
          obtain ⟨z, hz0⟩ : ∃ z, z = (writeM m2.abs 1 e.area e.at_ ((b.drop off).take e.size)).2 := ⟨_, rfl⟩
          rw [← hz0]
          by_cases hq0 : z = 0
          · have hse : stepE (m2.abs, b.drop off) e = some (m3.abs, b.drop (off + e.size)) := by
              rw [stepE]
              dsimp only
              rw [if_pos (by rw [← hz0]; exact hq0), ← hm3, List.drop_drop]
            (repeat (first | (refine i_dst ?_; (first | (refine i_move ?_; refine l_q rfl rfl rfl (q_move rfl) ?_) | (refine i_assign ?_; refine l_q rfl rfl rfl (q_assign rfl) ?_) | (refine i_load ?_; refine l_q rfl rfl rfl (by ((exact q_ld1 tab rfl rfl rfl (by first | ((repeat (first | exact List.Mem.head _ | apply List.Mem.tail)); done) | fail) (by (rfl))))) ?_) | (refine i_bin ?_; refine l_q rfl rfl rfl (by (exact q_add rfl rfl (by (exact wr_i64 (by omega))))) ?_) | (refine i_sl ?_; refine l_q rfl rfl rfl (by (exact q_slLo tab rfl rfl rfl rfl (by first | (with_reducible exact Int.toNat_natCast _) | (with_reducible exact Int.toNat_zero) | (with_reducible exact Int.toNat_one) | rfl) (by (omega)))) ?_) | (refine l_q rfl rfl rfl (by ((apply iq_fld; (exact q_fieldAddr tab rfl rfl rfl rfl rfl rfl rfl)))) ?_))) | refine c_region ?_ | refine l_nil ?_ | (refine i_q ?_; (first | refine d_then ?_ | refine t_then ?_ | refine t_block ?_)) | refine c_skip ?_ | (refine i_cond ?_; (refine c_cf rfl (by (exact decide_eq_false (by omega))) ?_))))
            refine k_again (j + 1, m3, cutA Bj cj e.size 1, cj - e.size) ⟨by dsimp only; omega, hk3, ?_, ?_, ?_, by dsimp only; omega⟩ (by dsimp only; omega) ?_ (fun w h => h.psub (by first | ((repeat (first | exact PSub.nil | exact Ext.head | apply Ext.tail | apply PSub.cons)); done) | fail))
            · dsimp only
              rw [foldlM_take he hf2, hse, hst]
            · intro S' w' hB
              have hnext := Ro.cut (a := e.size) (k := b.length - off - e.size) (hro S' w' hB) hcj (by omega)
              rw [List.drop_drop, List.take_of_length_le (by rw [List.length_drop]; omega)] at hnext
              dsimp only
              rw [hst, show b.length - (off + e.size) = b.length - off - e.size by omega]
              exact hnext
            · dsimp only
              omega
            · dsimp only
              rw [hst, show b.length - (off + e.size) = b.length - off - e.size by omega]
              exact (by first | ((repeat (first | exact trivial | exact rfl | apply Sub.cons | exact look_int rfl (by omega) | exact look_int rfl (by simp) | exact look_int rfl (by simp; omega))); done) | fail)
          · have hse : stepE (m2.abs, b.drop off) e = none := by
              rw [stepE]
              dsimp only
              rw [if_neg (by rw [← hz0]; exact hq0)]
            have hno : writesM m.abs l.tabs y.bs = none := foldlM_stop (k := k + 1) (by
              rw [foldlM_take hz hfo, stepT, if_neg hbn]
              dsimp only
              rw [foldlM_stop (k := j + 1) (by rw [foldlM_take he hf2, hse])]
              rfl)
            (repeat (first | (refine i_dst ?_; ((refine i_assign ?_; refine l_q rfl rfl rfl (q_assign rfl) ?_))) | refine d_seq ?_ | refine c_region ?_ | refine l_nil ?_ | (refine i_q ?_; (first | refine d_then ?_ | refine d_then_ret ?_ | refine t_then_ret ?_ | refine t_block_ret ?_)) | refine c_ret ?_ | (refine i_cond ?_; (refine c_ct rfl (by (exact decide_eq_true (by omega))) ?_))))
            subst hS
            refine t_hp (hp' := [stimA rT p (x.set i nilP), refA q m]) (fun w h => ?_) (t_ret1 Try.results35 rfl ⟨_, m, by rw [hno]; rfl, rfl, by rw [absS_set]; rfl, by rw [hno]⟩)
            exact stim_unfocus (by omega) (part_nil (h.psub (by first | ((repeat (first | exact PSub.nil | exact Ext.head | apply Ext.tail | apply PSub.cons)); done) | fail)))
        · have hjn : j = ne := by omega
          subst hjn
          rw [List.take_of_length_le (by omega)] at hf2
          (repeat (first | (refine i_dst ?_; (first | (refine i_move ?_; refine l_q rfl rfl rfl (q_move rfl) ?_) | (refine i_assign ?_; refine l_q rfl rfl rfl (q_assign rfl) ?_) | (refine i_load ?_; refine l_q rfl rfl rfl (by (first | (exact q_ld1 tab rfl rfl rfl (by first | ((repeat (first | exact List.Mem.head _ | apply List.Mem.tail)); done) | fail) (by (rfl))) | exact q_ldc tab rfl rfl rfl (by assumption))) ?_) | (refine i_bin ?_; refine l_q rfl rfl rfl (by (first | exact q_lss rfl rfl | exact q_add rfl rfl (by (exact wr_i64 (by omega))))) ?_) | (refine i_blt ?_; refine l_q rfl rfl rfl (by (exact q_len tab rfl rfl)) ?_) | (refine i_ix ?_; refine l_q rfl rfl rfl (by (exact q_indexAddr1 tab rfl rfl rfl rfl (by omega))) ?_) | (refine l_q rfl rfl rfl (by ((apply iq_fld; (exact q_fieldAddr tab rfl rfl rfl rfl rfl rfl rfl)))) ?_))) | refine d_seq ?_ | refine c_region ?_ | refine l_nil ?_ | (refine i_q ?_; (first | refine d_then ?_ | refine t_then ?_ | refine d_then_exit ?_ | refine t_then_exit ?_ | refine t_block ?_ | refine t_block_eq rfl ?_)) | refine c_exit ?_ | (refine i_cond ?_; ((refine c_cf rfl (by (((first | (simp; done) | fail)))) ?_)))))
          exact k_again (k + 1, m2) ⟨by dsimp only; omega, hk2, by
            dsimp only
            rw [foldlM_take hz hfo, stepT, if_neg hbn]
            dsimp only
            rw [hf2]
            rfl⟩ (by dsimp only; omega) (by first | ((repeat (first | exact trivial | exact rfl | apply Sub.cons | exact look_int rfl (by omega) | exact look_int rfl (by simp) | exact look_int rfl (by simp; omega))); done) | fail) (fun w h => h.psub (by first | ((repeat (first | exact PSub.nil | exact Ext.head | apply Ext.tail | apply PSub.cons)); done) | fail))
    · have hin : k = n := by omega
      subst hin
      have hyes : writesM m.abs l.tabs y.bs = some m1.abs := by
        rw [List.take_of_length_le (by rw [List.length_zip]; omega)] at hfo
        exact hfo
      refine c_fact (p := ∃ R cr S' cs E ce, m1.m.rv = .slice R m1.m.ram.length cr ∧ m1.m.sv = .slice S' m1.m.segs.length cs ∧ m1.ev = .slice E m1.m.segs.length ce) (fun w h => ?_) ?_
      · have hr := Ro.empty (h.mem (X := refA q2 m1) (by first | ((repeat (first | exact List.Mem.head _ | apply List.Mem.tail)); done) | fail))
        obtain ⟨R, cr, e1, -⟩ := bytesA_ro hr.refRam.is
        obtain ⟨S', cs, e2, -⟩ := row_slice hr.refRow.is
        obtain ⟨E, ce, e3, -⟩ := row_slice hr.refSee.is
        exact ⟨R, cr, S', cs, E, ce, e1, e2, e3⟩
      rintro ⟨R, cr, S', cs, E, ce, e1, e2, e3⟩
      refine c_hp (hp' := blk q2 [.slice R m1.m.ram.length cr, .slice S' m1.m.segs.length cs, .slice E m1.m.segs.length ce] 97 :: bytesA m1.m.rv m1.m.ram :: row 30 1 m1.m.sv m1.m.segs.length (m1.m.segs.map (·.pv)) :: row 43 2 m1.ev m1.m.segs.length (sees m1.m.segs) :: starL (m1.m.segs.map rsegA) :: [refA q m, blk p ((x.map (·.v)).set i (.slice none 0 0)) rT, starL ((x.map partA).set i emp), starL [emp, pureA (x.length = 4), emp], blk b7 [.int .i64 l.first, .slice A k c, .bool l.stim, .int .u8 l.ev, .int .u8 l.pre, .int .u8 l.pri, .bool l.on, .bool l.ch] 42]) (fun w h => by
        have h2 := ref_open (h.ext (X := refA q2 m1) (by first | ((repeat (first | exact Ext.head | apply Ext.tail)); done) | fail))
        rw [← e1, ← e2, ← e3]
        exact h2.psub (by first | ((repeat (first | exact PSub.nil | exact Ext.head | apply Ext.tail | apply PSub.cons)); done) | fail)) ?_
      refine c_hp (hp' := blk q [m.m.rv, m.m.sv, m.ev] 97 :: blk q2 [.slice R m1.m.ram.length cr, .slice S' m1.m.segs.length cs, .slice E m1.m.segs.length ce] 97 :: bytesA m1.m.rv m1.m.ram :: row 30 1 m1.m.sv m1.m.segs.length (m1.m.segs.map (·.pv)) :: row 43 2 m1.ev m1.m.segs.length (sees m1.m.segs) :: starL (m1.m.segs.map rsegA) :: [blk p ((x.map (·.v)).set i (.slice none 0 0)) rT, starL ((x.map partA).set i emp), starL [emp, pureA (x.length = 4), emp], blk b7 [.int .i64 l.first, .slice A k c, .bool l.stim, .int .u8 l.ev, .int .u8 l.pre, .int .u8 l.pri, .bool l.on, .bool l.ch] 42]) (fun w h => by
        exact (ref_open (h.ext (X := refA q m) (by first | ((repeat (first | exact Ext.head | apply Ext.tail)); done) | fail))).psub (by first | ((repeat (first | exact PSub.nil | exact Ext.head | apply Ext.tail | apply PSub.cons)); done) | fail)) ?_
      (repeat (first | (refine i_dst ?_; (first | (refine i_move ?_; refine l_q rfl rfl rfl (q_move rfl) ?_) | (refine i_assign ?_; refine l_q rfl rfl rfl (q_assign rfl) ?_) | (refine i_load ?_; refine l_q rfl rfl rfl (by ((exact q_ld1 tab rfl rfl rfl (by first | ((repeat (first | exact List.Mem.head _ | apply List.Mem.tail)); done) | fail) (by (rfl))))) ?_) | (refine i_bin ?_; refine l_q rfl rfl rfl (by (exact q_lss rfl rfl)) ?_) | (refine i_blt ?_; refine l_q rfl rfl rfl (by (exact q_len tab rfl rfl)) ?_) | (refine l_q rfl rfl rfl (by (first | (apply iq_fld; (exact q_fieldAddr tab rfl rfl rfl rfl rfl rfl rfl)) | (apply iq_nck; (exact q_nilck rfl)))) ?_))) | refine d_seq ?_ | refine c_region ?_ | refine l_nil ?_ | (refine i_q ?_; (first | refine d_then ?_ | refine d_then_exit ?_ | refine t_then_exit ?_ | refine t_block_eq rfl ?_)) | refine c_exit ?_ | refine c_ret ?_ | (refine i_store ?_; ((refine l_set tab rfl rfl rfl rfl (by first | ((repeat (first | exact Upd.head | apply Upd.tail)); done) | fail) (by first | ((repeat (first | exact LSet.zero | apply LSet.succ)); done) | fail) ?_))) | (refine i_cond ?_; ((refine c_cf rfl (by (((first | (simp; done) | fail)))) ?_)))))
      subst hS
      rw [hyes]
      refine t_hp (hp' := [stimA rT p (x.set i nilP), refA q m1]) (fun w h => ?_) (t_ret1 Try.results35 rfl ⟨_, m1, rfl, rfl, by rw [absS_set]; rfl, rfl⟩)
      rw [← e1, ← e2, ← e3] at h
      have h1 := refA_mk (x := m1) (F := [blk p ((x.map (·.v)).set i (.slice none 0 0)) rT, starL ((x.map partA).set i emp), starL [emp, pureA (x.length = 4), emp]]) (h.psub (by first | ((repeat (first | exact PSub.nil | exact Ext.head | apply Ext.tail | apply PSub.cons)); done) | fail))
      exact stim_unfocus (by omega) (part_nil (h1.psub (by first | ((repeat (first | exact PSub.nil | exact Ext.head | apply Ext.tail | apply PSub.cons)); done) | fail)))
end Go.Proofs.Ytkeekkdaielipaa

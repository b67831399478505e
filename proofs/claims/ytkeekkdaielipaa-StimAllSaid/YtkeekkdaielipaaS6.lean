/-
  Layer 14: Apply, walked; and a nil Stim.
-/
import Derived.Test.YtkeekkdaielipaaS5
import Derived.Test.YtkeekkdaielipaaM9
set_option linter.unusedVariables false
set_option maxRecDepth 100000
namespace Go.Proofs.Ytkeekkdaielipaa
open Go.RowKit
attribute [local irreducible] TL TC TQ TK TO Qt TA
def ApplyOut (t : TypeId) (p q : Nat) (r : Sm × Mm × Bool) (v : Value) (B : List Asn) : Prop := ∃ x' m', v = .bool r.2.2 ∧ B = [stimA t p x', memA q m'] ∧ absS x' = r.1 ∧ m'.abs = r.2.1
theorem part_out {S : Nat → Prop} {w0 w : World} {y : PartV} {F : List Asn} (h : St S w0 (partA y :: F) w) : Ro (fps F) w (partA y) := ⟨h.all _ (by simp), fun b hb ⟨X, hX, hx⟩ => h.ap.1 X hX b hb hx⟩
attribute [local irreducible] blk row bytesA starL memA segA roB
attribute [local irreducible] stimA partA
set_option maxHeartbeats 4000000 in
theorem sapply_spec {p q : Nat} {x : List PartV} {m : MemV} {w : World} (hA : Hold [stimA sT p x, memA q m] w) (hk : MmOk m.abs) (list : Int) (v : List Value) (l : ListI) (hl : InList (fps [stimA sT p x, memA q m]) w v l) (hsm : SmallL l) :
    Calls Try.prog 18 #[.pointer (some ⟨p, 0, none⟩), .pointer (some ⟨q, 0, none⟩), .int .i64 list, .agg v.toArray] w (Ret w [stimA sT p x, memA q m] (ApplyOut sT p q (applyS (absS x) m.abs list l.tabs))) := by
  have hx4 : x.length = 4 := stim_len (t := sT) (p := p) (hA.all _ (by simp))
  have hl0 := hl
  obtain ⟨⟨A, n, c, rfl, htab, hnc, hcm⟩, hl1, hl2, hl3, hl4⟩ := hl
  have htl := htab.len
  refine enter (vs := [.pointer (some ⟨p, 0, none⟩), .pointer (some ⟨q, 0, none⟩), .int .i64 list, .agg #[.int .i64 l.first, .slice A n c, .bool l.stim, .int .u8 l.ev, .int .u8 l.pre, .int .u8 l.pri, .bool l.on, .bool l.ch]]) Try.func18 rfl Try.ntmps18 rfl hA ?_
  (repeat (first | (refine i_dst ?_; (first | (refine i_move ?_; refine l_q rfl rfl rfl (q_move rfl) ?_) | (refine i_assign ?_; refine l_q rfl rfl rfl (q_assign rfl) ?_) | (refine i_load ?_; refine l_q rfl rfl rfl (by ((exact q_ldN tab rfl rfl rfl rfl (by first | ((repeat (first | exact List.Mem.head _ | apply List.Mem.tail)); done) | fail) (by first | ((repeat (first | exact TakeR.nil | apply TakeR.cons | apply CutR.zero | apply CutR.skip)); done) | fail)))) ?_) | (refine i_box ?_; (refine l_boxA rfl rfl (fun _ => ?_))))) | refine d_seq ?_ | refine c_region ?_ | refine l_nil ?_ | (refine i_q ?_; (refine d_then ?_))))
  rename_i b7
  (refine l_call0 rfl rfl Try.func22 rfl (by decide) (fun w' h => sfull_spec (x := x) (Ro.empty (h.mem (by first | ((repeat (first | exact List.Mem.head _ | apply List.Mem.tail)); done) | fail))) list _ l (hl0.to (fun r hr => roOf0 h hr))) (fun v B hv => ?_); obtain ⟨rfl, rfl⟩ := hv)
  cases hf : fullS (absS x) list l.tabs with
  | false =>
    have et : applyS (absS x) m.abs list l.tabs = (absS x, m.abs, false) := by rw [applyS, hf]; rfl
    rw [et]
    (repeat (first | (refine i_dst ?_; (first | (refine i_assign ?_; refine l_q rfl rfl rfl (q_assign rfl) ?_) | refine l_q rfl rfl rfl (by (exact q_not rfl)) ?_)) | refine d_seq ?_ | refine c_region ?_ | refine l_nil ?_ | (refine i_q ?_; (first | refine d_then ?_ | refine d_then_ret ?_)) | refine c_ret ?_ | (refine i_cond ?_; (refine c_ct rfl (by (rfl)) ?_))))
    exact t_hp (hp' := [stimA sT p x, memA q m]) (fun w h => h.subl (by first | ((repeat (first | exact SubL.nil | apply SubL.keep | apply SubL.skip)); done) | fail)) (t_ret1 Try.results18 rfl ⟨x, m, rfl, rfl, rfl, rfl⟩)
  | true =>
    have hf' := hf
    simp only [fullS, decide_eq_true_eq] at hf'
    obtain ⟨i, rfl⟩ : ∃ i : Nat, list = i := ⟨list.toNat, by omega⟩
    rw [Int.toNat_natCast] at hf'
    obtain ⟨y, hy⟩ : ∃ y, x[i]? = some y := ⟨_, List.getElem?_eq_getElem (by omega)⟩
    rw [absS_get hy] at hf'
    have et : applyS (absS x) m.abs i l.tabs = ((absS x).set i [], (match writesM m.abs l.tabs y.bs with | some M' => M' | none => m.abs), (writesM m.abs l.tabs y.bs).isSome) := by
      rw [applyS, hf, if_pos rfl, Int.toNat_natCast, absS_get hy]
      cases writesM m.abs l.tabs y.bs <;> rfl
    rw [et]
    (repeat (first | (refine i_dst ?_; (first | (refine i_move ?_; refine l_q rfl rfl rfl (q_move rfl) ?_) | (refine i_ix ?_; refine l_q rfl rfl rfl (by (exact q_indexAddrA1 tab rfl rfl rfl rfl (by omega))) ?_) | (refine l_q rfl rfl rfl (by (first | (apply iq_fld; (exact q_fieldAddr tab rfl rfl rfl rfl rfl rfl rfl)) | (apply iq_nck; (exact q_nilck rfl)) | exact q_not rfl)) ?_))) | refine d_seq ?_ | refine c_region ?_ | refine l_nil ?_ | (refine i_q ?_; (refine d_then ?_)) | refine c_skip ?_ | (refine i_cond ?_; (refine c_cf rfl (by (rfl)) ?_))))
    refine l_hp (hp' := partA y :: blk p (x.map (·.v)) sT :: starL ((x.map partA).set i emp) :: starL [emp, pureA (x.length = 4), emp] :: [blk b7 [.int .i64 l.first, .slice A n c, .bool l.stim, .int .u8 l.ev, .int .u8 l.pre, .int .u8 l.pri, .bool l.on, .bool l.ch] 42, memA q m]) (fun w h => stim_focus hy (h.ext (by first | ((repeat (first | exact Ext.head | apply Ext.tail)); done) | fail))) ?_
    refine l_fact (p := ∃ Ay cy, y.v = .slice Ay y.bs.length cy ∧ y.bs.length ≤ cy ∧ cy ≤ maxLen ∧ y.vs.length = y.bs.length) (fun w h => part_v (h.get (i := 0) rfl)) ?_
    rintro ⟨Ay, cy, hyv, hy2, hy3, hy4⟩
    have hv : (x.map (·.v))[0 + 0 + (i : Int).toNat]? = some (.slice Ay y.bs.length cy) := by simp [hy, hyv]
    have hmx' : 0 + 0 + (i : Int).toNat < (x.map (·.v)).length := by rw [List.length_map]; omega
    have e0 : 0 + 0 + (i : Int).toNat = i := by omega
    (repeat (first | (refine i_dst ?_; (first | (refine i_move ?_; refine l_q rfl rfl rfl (q_move rfl) ?_) | (refine i_assign ?_; refine l_q rfl rfl rfl (q_assign rfl) ?_) | (refine i_load ?_; refine l_q rfl rfl rfl (by ((exact q_ld1 tab rfl rfl rfl (by first | ((repeat (first | exact List.Mem.head _ | apply List.Mem.tail)); done) | fail) (by (assumption))))) ?_) | (refine i_ix ?_; refine l_q rfl rfl rfl (by (exact q_indexAddrA1 tab rfl rfl rfl rfl (by omega))) ?_) | (refine l_q rfl rfl rfl (by (first | (apply iq_fld; (exact q_fieldAddr tab rfl rfl rfl rfl rfl rfl rfl)) | (apply iq_nck; (exact q_nilck rfl)))) ?_))) | refine d_seq ?_ | refine c_region ?_ | refine l_nil ?_ | (refine i_q ?_; (refine d_then ?_)) | (refine i_store ?_; ((refine l_setI tab rfl rfl rfl rfl (by first | ((repeat (first | exact Upd.head | apply Upd.tail)); done) | fail) (by (omega)) ?_)))))
    (refine a_begin mixed [blk b7 [.int .i64 l.first, .slice A n c, .bool l.stim, .int .u8 l.ev, .int .u8 l.pre, .int .u8 l.pri, .bool l.on, .bool l.ch] 42] 12 rfl (fun w h => h.subl (by first | ((repeat (first | exact SubL.nil | apply SubL.keep | apply SubL.skip)); done) | fail)) ?_)
    ((refine a_q 0 rfl rfl rfl rfl rfl (by decide +kernel) (q_move rfl) ?_; ((refine a_q 2 rfl rfl rfl rfl rfl (by decide +kernel) (by ((exact q_ldN tab rfl rfl rfl rfl (by first | ((repeat (first | exact List.Mem.head _ | apply List.Mem.tail)); done) | fail) (by first | ((repeat (first | exact TakeR.nil | apply TakeR.cons | apply CutR.zero | apply CutR.skip)); done) | fail)))) ?_)); refine a_q 3 rfl rfl rfl rfl rfl (by decide +kernel) (q_move rfl) ?_))
    (refine a_e 1 rfl (by decide +kernel) rfl (fun K hK => e_call0 rfl rfl Try.func25 rfl (by decide) (fun w' h => mclone_spec (m := m) (Ro.empty (h.mem (by first | ((repeat (first | exact List.Mem.head _ | apply List.Mem.tail)); done) | fail))) hk) (fun v B hv => ?_)); obtain ⟨q2, m2, rfl, rfl, hm2⟩ := hv; refine hK _ _ (fun w h => h.subl (by first | ((repeat (first | exact SubL.nil | apply SubL.keep | apply SubL.skip)); done) | fail)) ?_; clear hK)
    have hk2 : MmOk m2.abs := by rw [hm2]; exact hk
    (skip)
    (refine a_e 4 rfl (by decide +kernel) rfl (fun K hK => e_call1 (X := memA q2 m2) (by first | ((repeat (first | exact Ext.head | apply Ext.tail)); done) | fail) rfl rfl Try.func49 rfl (by decide) (fun w' h => by have := swrites_spec h.split hk2 _ l (hl0.to (fun r hr => h.roOf hr (fun X hX => by simp at hX; simp [hX]))) hsm y (h.roHp (A := [memA q2 m2]) (by first | ((repeat (first | exact List.Mem.head _ | apply List.Mem.tail)); done) | fail)) hf'.2.2.2; rw [hyv] at this; exact this) (fun v B hv => ?_)); obtain ⟨m3, rfl, rfl, hk3, hm3⟩ := hv; refine hK _ _ (fun w h => h.subl (by first | ((repeat (first | exact SubL.nil | apply SubL.keep | apply SubL.skip)); done) | fail)) ?_; clear hK)
    rw [hm2] at hm3 ⊢
    cases hw : writesM m.abs l.tabs y.bs with
    | none =>
      ((refine a_q 5 rfl rfl rfl rfl rfl (by decide +kernel) (q_move rfl) ?_; (refine a_gf 6 rfl rfl rfl rfl rfl rfl rfl rfl (by decide +kernel) ?_); (refine a_gf 7 rfl rfl rfl rfl rfl rfl rfl rfl (by decide +kernel) ?_); (refine a_gf 8 rfl rfl rfl rfl rfl rfl rfl rfl (by decide +kernel) ?_)))
      refine a_gf 9 rfl rfl rfl rfl rfl rfl rfl rfl (by decide +kernel) ?_
      ((refine a_q 10 rfl rfl rfl rfl rfl (by decide +kernel) (by (exact q_pick_f rfl rfl)) ?_; refine a_q 11 rfl rfl rfl rfl rfl (by decide +kernel) (q_assign rfl) ?_))
      refine a_done (by decide +kernel) ?_
      (repeat (first | (refine i_q ?_; (refine d_then ?_)) | refine c_ret ?_))
      refine t_hp (hp' := [stimA sT p (x.set i nilP), memA q m]) (fun w h => ?_) (t_ret1 Try.results18 rfl ⟨_, m, rfl, rfl, by rw [absS_set]; rfl, rfl⟩)
      rw [e0] at h
      exact stim_unfocus (by omega) (part_nil (h.subl (by first | ((repeat (first | exact SubL.nil | apply SubL.keep | apply SubL.skip)); done) | fail)))
    | some M' =>
      ((refine a_q 5 rfl rfl rfl rfl rfl (by decide +kernel) (q_move rfl) ?_; (refine a_gt 6 rfl rfl rfl rfl rfl rfl rfl (by decide +kernel) (q_move rfl) ?_); ((refine a_gt 7 rfl rfl rfl rfl rfl rfl rfl (by decide +kernel) (by ((exact q_ldN tab rfl rfl rfl rfl (by first | ((repeat (first | exact List.Mem.head _ | apply List.Mem.tail)); done) | fail) (by first | ((repeat (first | exact TakeR.nil | apply TakeR.cons | apply CutR.zero | apply CutR.skip)); done) | fail)))) ?_)); (refine a_gt 8 rfl rfl rfl rfl rfl rfl rfl (by decide +kernel) (q_move rfl) ?_)))
      refine a_eg 9 rfl (by decide +kernel) rfl rfl rfl (fun K hK => e_call1 (X := memA q m) (by first | ((repeat (first | exact Ext.head | apply Ext.tail)); done) | fail) rfl rfl Try.func49 rfl (by decide) (fun w' h => by have := swrites_spec h.split hk _ l (hl0.to (fun r hr => h.roOf hr (fun X hX => by simp at hX; simp [hX]))) hsm y (h.roHp (A := [memA q m]) (by first | ((repeat (first | exact List.Mem.head _ | apply List.Mem.tail)); done) | fail)) hf'.2.2.2; rw [hyv] at this; exact this) (fun v B hv => ?_))
      obtain ⟨m4, rfl, rfl, hk4, hm4⟩ := hv
      refine hK _ _ (fun w h => h.subl (by first | ((repeat (first | exact SubL.nil | apply SubL.keep | apply SubL.skip)); done) | fail)) ?_
      clear hK
      rw [hw]
      ((refine a_q 10 rfl rfl rfl rfl rfl (by decide +kernel) (by (exact q_pick_t rfl rfl)) ?_; refine a_q 11 rfl rfl rfl rfl rfl (by decide +kernel) (q_assign rfl) ?_))
      refine a_done (by decide +kernel) ?_
      (repeat (first | (refine i_q ?_; (refine d_then ?_)) | refine c_ret ?_))
      refine t_hp (hp' := [stimA sT p (x.set i nilP), memA q m4]) (fun w h => ?_) (t_ret1 Try.results18 rfl ⟨_, m4, rfl, rfl, by rw [absS_set]; rfl, hm4 _ hw⟩)
      rw [e0] at h
      have h1 := stim_unfocus (F := [memA q m4]) (z := nilP) (t := sT) (p := p) (x := x) (i := i) (by omega) (part_nil ((h.ext (X := memA q m4) (by first | ((repeat (first | exact Ext.head | apply Ext.tail)); done) | fail)).subl (by first | ((repeat (first | exact SubL.nil | apply SubL.keep | apply SubL.skip)); done) | fail) |>.perm (List.perm_append_comm (l₁ := [memA q m4]) (l₂ := [blk p ((x.map (·.v)).set i nilP.v) sT, starL ((x.map partA).set i emp), starL [emp, pureA (x.length = 4), emp]])) ))
      exact h1
end Go.Proofs.Ytkeekkdaielipaa

/-
  The reference's memory: Set and Write, walked.
-/
import Derived.Test.YtkeekkdaielipaaR2
set_option linter.unusedVariables false
set_option maxRecDepth 100000
namespace Go.Proofs.Ytkeekkdaielipaa
open Go.RowKit
attribute [local irreducible] TL TC TQ TK TO Qt TA


theorem rThere_is {q : Nat} {x : RefV} {w : World} (h : (refA q x).C w) (seg page : Int) :
    (∃ s, 0 ≤ seg ∧ x.m.segs[seg.toNat]? = some s ∧ s.pgs.length = s.s.dat.length ∧ 0 ≤ page ∧ page < s.pgs.length ∧ rThere x seg page = true ∧ x.abs.segs[seg.toNat]? = some s.s) ∨ (rThere x seg page = false ∧ (∀ s, 0 ≤ seg → x.abs.segs[seg.toNat]? = some s → ¬ (0 ≤ page ∧ page < s.dat.length))) := by
  have hm : Ro (fps []) w (refA q x) := Ro.empty h
  by_cases h1 : 0 ≤ seg ∧ seg < x.m.segs.length
  · obtain ⟨s, hs⟩ : ∃ s, x.m.segs[seg.toNat]? = some s := ⟨_, List.getElem?_eq_getElem (by omega)⟩
    have hl := (hm.refSeg hs).rsegLen
    have e4 : x.m.segs.getD seg.toNat ⟨0, .slice none 0 0, [], ⟨0, [], 0, 0⟩⟩ = s := by simp [List.getD_eq_getElem?_getD, hs]
    by_cases h2 : 0 ≤ page ∧ page < s.pgs.length
    · exact .inl ⟨s, h1.1, hs, hl, h2.1, h2.2, by simp only [rThere, e4]; rw [decide_eq_true h1, decide_eq_true h2]; rfl, rabs_seg hs⟩
    · refine .inr ⟨by simp only [rThere, e4]; rw [decide_eq_false h2, Bool.and_false], fun t _ ht => ?_⟩
      rw [rabs_seg hs] at ht
      injection ht with ht
      subst ht
      rw [← hl]
      exact h2
  · refine .inr ⟨by simp only [rThere]; rw [decide_eq_false h1, Bool.false_and], fun t h0 ht => ?_⟩
    have := (List.getElem?_eq_some_iff.1 ht).1
    simp only [RefV.abs, MemV.abs, List.length_map] at this
    omega
theorem there1 {M : Mm} {seg page : Int} {s : Seg} (h0 : 0 ≤ seg) (hs : M.segs[seg.toNat]? = some s) (hp : 0 ≤ page ∧ page < s.dat.length) : thereM M seg [page] = some s := by
  rw [thereM, if_pos h0, hs]
  dsimp only
  rw [if_pos]
  simp
  omega
theorem there0 {M : Mm} {seg page : Int} {ps : List Int} (hp : page ∈ ps) (h : ∀ s, 0 ≤ seg → M.segs[seg.toNat]? = some s → ¬ (0 ≤ page ∧ page < s.dat.length)) : thereM M seg ps = none := by
  unfold thereM
  by_cases h0 : 0 ≤ seg
  · rw [if_pos h0]
    cases hs : M.segs[seg.toNat]? with
    | none => rfl
    | some s =>
      dsimp only
      rw [if_neg]
      intro h1
      have := List.all_eq_true.1 h1 page hp
      simp at this
      exact h s h0 hs ⟨this.1, by omega⟩
  · rw [if_neg h0]
/-- What is seen, laid open. -/
theorem rsee_open {S : Nat → Prop} {w0 w : World} {F : List Asn} {q : Nat} {x : RefV} (hn : 0 < x.m.segs.length) (h : St S w0 (refA q x :: F) w) :
    ∃ y : Nat × Nat × List Value, (x.ev = .slice (some ⟨y.1, 0, none⟩) x.m.segs.length y.2.1 ∧ x.m.segs.length ≤ y.2.1 ∧ y.2.1 ≤ maxLen ∧ (sees x.m.segs ++ y.2.2).length = y.2.1 * 2) ∧ St S w0 (blk y.1 (sees x.m.segs ++ y.2.2) 43 :: blk q [x.m.rv, x.m.sv, x.ev] 97 :: starL (((refL q x).set 3 emp).set 0 emp) :: F) w := by
  have h1 := rsee_focus h
  obtain ⟨g, cap, junk, e1, e2, e3, e4, e5⟩ := row_blk (h1.get (i := 0) rfl) hn
  have h2 := h1.see (i := 0) (Y := blk g (sees x.m.segs ++ junk) 43) rfl (fun _ => e5) (fun b hb => by
    have hb := S_blk hb
    show x.ev.ownBlock = some b
    rw [e1, hb]
    rfl)
  have h3 : St S w0 (blk q [x.m.rv, x.m.sv, x.ev] 97 :: blk g (sees x.m.segs ++ junk) 43 :: starL (((refL q x).set 3 emp).set 0 emp) :: F) w := st_take (j := 1) (i := 0) h2 rfl rfl
  exact ⟨(g, cap, junk), ⟨e1, e2, e3, e4⟩, h3.perm (.swap _ _ _)⟩
theorem rsee_close {S : Nat → Prop} {w0 w : World} {F : List Asn} {q k g c : Nat} {x : RefV} {s : SegV} {junk : List Value} (hs : x.m.segs[k]? = some s) (t : SegV) (hp : t.pv = s.pv) (hpg : t.pgs = s.pgs) (hd : t.s.dat = s.s.dat) (he : x.ev = .slice (some ⟨g, 0, none⟩) x.m.segs.length c) (hc : x.m.segs.length ≤ c) (hm : c ≤ maxLen) (hj : (sees x.m.segs ++ junk).length = c * 2)
    (h : St S w0 (blk g (sees (x.m.segs.set k t) ++ junk) 43 :: blk q [x.m.rv, x.m.sv, x.ev] 97 :: starL (((refL q x).set 3 emp).set 0 emp) :: F) w) : St S w0 (refA q (x.put k t) :: F) w := by
  have h1 : St S w0 (blk g (sees (x.m.segs.set k t) ++ junk) 43 :: starL ((refL q x).set 3 emp) :: F) w := st_put (j := 1) (i := 0) (hp := blk g (sees (x.m.segs.set k t) ++ junk) 43 :: starL (((refL q x).set 3 emp).set 0 emp) :: F) (h.perm (.swap _ _ _)) rfl rfl
  have hl : (sees (x.m.segs.set k t)).length = (sees x.m.segs).length := by rw [length_sees, length_sees, List.length_set]
  refine rsee_unfocus hs t hp hpg hd (h1.see (i := 0) rfl (fun h => ?_) (fun b hb => ?_))
  · rw [he]
    refine row_of_blk h 2 x.m.segs.length c hc hm (by rw [List.length_append, hl, ← List.length_append]; exact hj) _ ?_
    rw [List.take_left' (by rw [length_sees, List.length_set])]
  · have hb : x.ev.ownBlock = some b := hb
    rw [he] at hb
    have hb : some g = some b := hb
    injection hb with hb
    exact blk_S hb.symm
theorem sees_set0 {l : List SegV} {k : Nat} {s t : SegV} (h : l[k]? = some s) (h1 : t.s.s1 = s.s.s1) : (sees l).set (k * 2) (.int .i64 t.s.s0) = sees (l.set k t) := by
  rw [← sees_set (t := t) h, h1]
  refine (set_same ?_).symm
  rw [List.getElem?_set_ne (by omega)]
  exact (sees_get h).2
theorem sees_set1 {l : List SegV} {k : Nat} {s t : SegV} (h : l[k]? = some s) (h0 : t.s.s0 = s.s.s0) : (sees l).set (k * 2 + 1) (.int .i64 t.s.s1) = sees (l.set k t) := by
  rw [← sees_set (t := t) h, h0]
  rw [set_same (sees_get h).1]
attribute [local irreducible] blk row bytesA starL memA segA roB

attribute [local irreducible] refA rsegA sees

set_option maxHeartbeats 4000000 in
theorem rset_spec {q : Nat} {x : RefV} {w : World} (hA : Hold [refA q x] w) (hk : MmOk x.abs) (who : Nat) (seg page : Int) (hw : who ≤ 255) :
    Calls Try.prog 31 #[.pointer (some ⟨q, 0, none⟩), .int .u8 who, .int .i64 seg, .int .i64 page] w (Ret w [refA q x] (RWriteR q (setM x.abs who seg page))) := by
  refine enter (vs := [.pointer (some ⟨q, 0, none⟩), .int .u8 who, .int .i64 seg, .int .i64 page]) Try.func31 rfl Try.ntmps31 rfl hA ?_
  have hh : (refA q x).C w := hA.all _ (by simp)
  have hmx : maxLen = 2 ^ 63 - 1 := rfl
  by_cases h1 : who = 0 ∨ who > 3
  · have e1 : setM x.abs who seg page = (x.abs, 1) := by rw [setM, if_pos h1]
    rw [e1]
    by_cases h2 : who < 1
    · (repeat (first | (refine i_dst ?_; (first | (refine i_move ?_; refine l_q rfl rfl rfl (q_move rfl) ?_) | (refine i_assign ?_; refine l_q rfl rfl rfl (q_assign rfl) ?_) | (refine i_bin ?_; refine l_q rfl rfl rfl (by (exact q_lss rfl rfl)) ?_) | refine l_q rfl rfl rfl (by (exact q_pick_t rfl rfl)) ?_)) | refine d_seq ?_ | refine c_region ?_ | refine l_nil ?_ | (refine i_q ?_; (first | refine d_then ?_ | refine d_then_ret ?_)) | refine c_ret ?_ | (refine i_guard ?_; (first | refine l_gf rfl rfl rfl rfl rfl rfl ?_ | (refine l_gfd rfl rfl rfl (by ((simp; omega))) rfl rfl ?_))) | (refine i_cond ?_; (refine c_ct rfl (by (rfl)) ?_))))
      exact t_ret1 Try.results31 rfl ⟨x, rfl, rfl, rfl⟩
    · (repeat (first | (refine i_dst ?_; (first | (refine i_move ?_; refine l_q rfl rfl rfl (q_move rfl) ?_) | (refine i_assign ?_; refine l_q rfl rfl rfl (q_assign rfl) ?_) | (refine i_bin ?_; refine l_q rfl rfl rfl (by (first | exact q_lss rfl rfl | exact q_gtr rfl rfl)) ?_) | refine l_q rfl rfl rfl (by (exact q_pick_f rfl rfl)) ?_)) | refine d_seq ?_ | refine c_region ?_ | refine l_nil ?_ | (refine i_q ?_; (first | refine d_then ?_ | refine d_then_ret ?_)) | refine c_ret ?_ | (refine i_guard ?_; (first | refine l_gt rfl rfl rfl ?_ | (refine l_gtd rfl rfl rfl (by ((simp; omega))) ?_))) | (refine i_cond ?_; (refine c_ct rfl (by (exact decide_eq_true (by omega))) ?_))))
      exact t_ret1 Try.results31 rfl ⟨x, rfl, rfl, rfl⟩
  · (repeat (first | (refine i_dst ?_; (first | (refine i_move ?_; refine l_q rfl rfl rfl (q_move rfl) ?_) | (refine i_assign ?_; refine l_q rfl rfl rfl (q_assign rfl) ?_) | (refine i_bin ?_; refine l_q rfl rfl rfl (by (first | exact q_lss rfl rfl | exact q_gtr rfl rfl)) ?_) | refine l_q rfl rfl rfl (by (exact q_pick_f rfl rfl)) ?_)) | refine d_seq ?_ | refine c_region ?_ | refine l_nil ?_ | (refine i_q ?_; (refine d_then ?_)) | refine c_skip ?_ | (refine i_guard ?_; (first | refine l_gt rfl rfl rfl ?_ | (refine l_gtd rfl rfl rfl (by ((simp; omega))) ?_))) | (refine i_cond ?_; (refine c_cf rfl (by (exact decide_eq_false (by omega))) ?_))))
    (refine l_call0 rfl rfl Try.func56 rfl (by decide) (fun w' h => rthere_spec (roHp0 h (i := 0) rfl) hk seg page) (fun v B hv => ?_); obtain ⟨rfl, rfl⟩ := hv)
    rcases rThere_is hh seg page with ⟨s, k1, k2, k3, k4, k5, k6, k7⟩ | ⟨k1, k2⟩
    · rw [k6]
      obtain ⟨k, rfl⟩ : ∃ k : Nat, seg = k := ⟨seg.toNat, by omega⟩
      obtain ⟨pg, rfl⟩ : ∃ pg : Nat, page = pg := ⟨page.toNat, by omega⟩
      rw [Int.toNat_natCast] at k2 k7
      have hkl := (List.getElem?_eq_some_iff.1 k2).1
      have e1 : setM x.abs who k pg = (⟨x.abs.ram, x.abs.segs.set k ⟨s.s.ln, s.s.dat, if who = 2 then s.s.s0 else pg, if who = 1 then s.s.s1 else pg⟩⟩, 0) := by
        rw [setM, if_neg h1, there1 (by omega) (by rw [Int.toNat_natCast]; exact k7) ⟨by omega, by omega⟩]
        simp
      rw [e1]
      have hsl : k * 2 + 1 < (sees x.m.segs).length := by rw [length_sees]; omega
      have hn4 : x.m.segs.length ≤ 4 := by have := hk.n4; simpa [RefV.abs, MemV.abs] using this
      refine l_ex (p := fun y : Nat × Nat × List Value => x.ev = .slice (some ⟨y.1, 0, none⟩) x.m.segs.length y.2.1 ∧ x.m.segs.length ≤ y.2.1 ∧ y.2.1 ≤ maxLen ∧ (sees x.m.segs ++ y.2.2).length = y.2.1 * 2) (hp' := fun y => [blk y.1 (sees x.m.segs ++ y.2.2) 43, blk q [x.m.rv, x.m.sv, x.ev] 97, starL (((refL q x).set 3 emp).set 0 emp)]) (fun w h => rsee_open (by omega) h) ?_
      rintro ⟨g, d, junk⟩ ⟨he, hd1, hd2, hj⟩
      dsimp only at he hd1 hd2 hj ⊢
      have hjl : k * 2 + 1 < (sees x.m.segs ++ junk).length := by rw [List.length_append]; omega
      rcases (by omega : who = 1 ∨ who = 2 ∨ who = 3) with rfl | rfl | rfl
      · rw [he]
        (repeat (first | (refine i_dst ?_; (first | (refine i_move ?_; refine l_q rfl rfl rfl (q_move rfl) ?_) | (refine i_assign ?_; refine l_q rfl rfl rfl (q_assign rfl) ?_) | (refine i_load ?_; refine l_q rfl rfl rfl (by ((exact q_ld1 tab rfl rfl rfl (by first | ((repeat (first | exact List.Mem.head _ | apply List.Mem.tail)); done) | fail) (by (rfl))))) ?_) | (refine i_bin ?_; refine l_q rfl rfl rfl (by (first | exact q_eql rfl rfl | exact q_geq rfl rfl | exact q_rem rfl rfl (by omega) (Int.tmod_eq_emod_of_nonneg (by omega)))) ?_) | (refine i_ix ?_; refine l_q rfl rfl rfl (by (first | exact q_indexAddrA1 tab rfl rfl rfl rfl (by omega) | exact q_indexAddr tab rfl rfl rfl rfl (by omega))) ?_) | (refine l_q rfl rfl rfl (by (first | (apply iq_fld; (exact q_fieldAddr tab rfl rfl rfl rfl rfl rfl rfl)) | (apply iq_nck; (exact q_nilck rfl)) | exact q_not rfl)) ?_))) | refine d_seq ?_ | refine c_region ?_ | refine l_nil ?_ | (refine i_q ?_; (refine d_then ?_)) | refine c_skip ?_ | refine c_ret ?_ | (refine i_store ?_; ((refine l_setI tab rfl rfl rfl rfl (by first | ((repeat (first | exact Upd.head | apply Upd.tail)); done) | fail) (by (omega)) ?_))) | (refine i_cond ?_; (first | refine c_ct rfl (by (rfl)) ?_ | refine c_cf rfl (by (rfl)) ?_))))
        refine t_hp (hp' := [refA q (x.put k ⟨s.b, s.pv, s.pgs, ⟨s.s.ln, s.s.dat, pg, s.s.s1⟩⟩)]) (fun w h => ?_) (t_ret1 Try.results31 rfl ⟨_, rfl, by rw [put_abs]; rfl, rfl⟩)
        simp only [Int.toNat_natCast, Nat.zero_add, Int.toNat_zero, Nat.add_zero] at h
        rw [List.set_append_left _ _ (by omega), sees_set0 (t := ⟨s.b, s.pv, s.pgs, ⟨s.s.ln, s.s.dat, pg, s.s.s1⟩⟩) k2 rfl, ← he] at h
        exact rsee_close k2 _ rfl rfl rfl he hd1 hd2 hj h
      · rw [he]
        (repeat (first | (refine i_dst ?_; (first | (refine i_move ?_; refine l_q rfl rfl rfl (q_move rfl) ?_) | (refine i_assign ?_; refine l_q rfl rfl rfl (q_assign rfl) ?_) | (refine i_load ?_; refine l_q rfl rfl rfl (by ((exact q_ld1 tab rfl rfl rfl (by first | ((repeat (first | exact List.Mem.head _ | apply List.Mem.tail)); done) | fail) (by (rfl))))) ?_) | (refine i_bin ?_; refine l_q rfl rfl rfl (by (first | exact q_eql rfl rfl | exact q_geq rfl rfl | exact q_rem rfl rfl (by omega) (Int.tmod_eq_emod_of_nonneg (by omega)))) ?_) | (refine i_ix ?_; refine l_q rfl rfl rfl (by (first | exact q_indexAddrA1 tab rfl rfl rfl rfl (by omega) | exact q_indexAddr tab rfl rfl rfl rfl (by omega))) ?_) | (refine l_q rfl rfl rfl (by (first | (apply iq_fld; (exact q_fieldAddr tab rfl rfl rfl rfl rfl rfl rfl)) | (apply iq_nck; (exact q_nilck rfl)) | exact q_not rfl)) ?_))) | refine d_seq ?_ | refine c_region ?_ | refine l_nil ?_ | (refine i_q ?_; (refine d_then ?_)) | refine c_skip ?_ | refine c_ret ?_ | (refine i_store ?_; ((refine l_setI tab rfl rfl rfl rfl (by first | ((repeat (first | exact Upd.head | apply Upd.tail)); done) | fail) (by (omega)) ?_))) | (refine i_cond ?_; (first | refine c_ct rfl (by (rfl)) ?_ | refine c_cf rfl (by (rfl)) ?_))))
        refine t_hp (hp' := [refA q (x.put k ⟨s.b, s.pv, s.pgs, ⟨s.s.ln, s.s.dat, s.s.s0, pg⟩⟩)]) (fun w h => ?_) (t_ret1 Try.results31 rfl ⟨_, rfl, by rw [put_abs]; rfl, rfl⟩)
        simp only [Int.toNat_natCast, Nat.zero_add, Int.toNat_one] at h
        rw [List.set_append_left _ _ (by omega), sees_set1 (t := ⟨s.b, s.pv, s.pgs, ⟨s.s.ln, s.s.dat, s.s.s0, pg⟩⟩) k2 rfl, ← he] at h
        exact rsee_close k2 _ rfl rfl rfl he hd1 hd2 hj h
      · rw [he]
        (repeat (first | (refine i_dst ?_; (first | (refine i_move ?_; refine l_q rfl rfl rfl (q_move rfl) ?_) | (refine i_assign ?_; refine l_q rfl rfl rfl (q_assign rfl) ?_) | (refine i_load ?_; refine l_q rfl rfl rfl (by ((exact q_ld1 tab rfl rfl rfl (by first | ((repeat (first | exact List.Mem.head _ | apply List.Mem.tail)); done) | fail) (by (rfl))))) ?_) | (refine i_bin ?_; refine l_q rfl rfl rfl (by (first | exact q_eql rfl rfl | exact q_geq rfl rfl | exact q_rem rfl rfl (by omega) (Int.tmod_eq_emod_of_nonneg (by omega)))) ?_) | (refine i_ix ?_; refine l_q rfl rfl rfl (by (first | exact q_indexAddrA1 tab rfl rfl rfl rfl (by omega) | exact q_indexAddr tab rfl rfl rfl rfl (by omega))) ?_) | (refine l_q rfl rfl rfl (by (first | (apply iq_fld; (exact q_fieldAddr tab rfl rfl rfl rfl rfl rfl rfl)) | (apply iq_nck; (exact q_nilck rfl)) | exact q_not rfl)) ?_))) | refine d_seq ?_ | refine c_region ?_ | refine l_nil ?_ | (refine i_q ?_; (refine d_then ?_)) | refine c_skip ?_ | refine c_ret ?_ | (refine i_store ?_; ((refine l_setI tab rfl rfl rfl rfl (by first | ((repeat (first | exact Upd.head | apply Upd.tail)); done) | fail) (by (first | omega | (simp; omega))) ?_))) | (refine i_cond ?_; (first | refine c_ct rfl (by (rfl)) ?_ | refine c_cf rfl (by (rfl)) ?_))))
        refine t_hp (hp' := [refA q (x.put k ⟨s.b, s.pv, s.pgs, ⟨s.s.ln, s.s.dat, pg, pg⟩⟩)]) (fun w h => ?_) (t_ret1 Try.results31 rfl ⟨_, rfl, by rw [put_abs]; rfl, rfl⟩)
        simp only [Int.toNat_natCast, Nat.zero_add, Int.toNat_zero, Int.toNat_one, Nat.add_zero] at h
        rw [List.set_append_left _ _ (by omega), List.set_append_left _ _ (by rw [List.length_set]; omega), sees_set (t := ⟨s.b, s.pv, s.pgs, ⟨s.s.ln, s.s.dat, pg, pg⟩⟩) k2, ← he] at h
        exact rsee_close k2 _ rfl rfl rfl he hd1 hd2 hj h
    · have e1 : setM x.abs who seg page = (x.abs, 82) := by rw [setM, if_neg h1, there0 (by simp) k2]
      rw [e1, k1]
      (repeat (first | (refine i_dst ?_; (first | (refine i_assign ?_; refine l_q rfl rfl rfl (q_assign rfl) ?_) | refine l_q rfl rfl rfl (by (exact q_not rfl)) ?_)) | refine d_seq ?_ | refine c_region ?_ | refine l_nil ?_ | (refine i_q ?_; (first | refine d_then ?_ | refine d_then_ret ?_)) | refine c_ret ?_ | (refine i_cond ?_; (refine c_ct rfl (by (rfl)) ?_))))
      exact t_ret1 Try.results31 rfl ⟨x, rfl, rfl, rfl⟩
end Go.Proofs.Ytkeekkdaielipaa

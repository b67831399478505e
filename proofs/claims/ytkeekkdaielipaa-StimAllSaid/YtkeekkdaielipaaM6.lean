/-
  Layer 8: Page, Set and Copy, walked.
-/
import Derived.Test.YtkeekkdaielipaaM5
set_option linter.unusedVariables false
set_option maxRecDepth 100000
namespace Go.Proofs.Ytkeekkdaielipaa
open Go.RowKit
attribute [local irreducible] TL TC TQ TK TO Qt TA
section
variable {p : Nat} {m : MemV} {w : World}
/-- What Page tells. -/
def pageM (M : Mm) (who : Nat) (seg : Int) : Int × Int :=
  if who ≠ 1 ∧ who ≠ 2 then (0, 1)
  else if 0 ≤ seg then match M.segs[seg.toNat]? with
    | some s => (((if who = 1 then s.s0 else s.s1 : Nat) : Int), 0)
    | none => (0, 82)
  else (0, 82)
/-! ### Parts of memory taken out -/
def SegV.see (s : SegV) (x y : Nat) : SegV := ⟨s.b, s.pv, s.pgs, ⟨s.s.ln, s.s.dat, x, y⟩⟩
theorem see_focus {S : Nat → Prop} {w0 w : World} {F : List Asn} {a : Nat} {s : SegV} (hs : m.segs[a]? = some s) (h : St S w0 (memA p m :: F) w) :
    St S w0 (blk s.b [s.pv, .int .i64 s.s.s0, .int .i64 s.s.s1] 112 :: starL ((segL s).set 0 emp) :: starL ((memL p m).set (3 + a) emp) :: F) w :=
  st_take (j := 0) (i := 0) (st_take (j := 0) (i := 3 + a) h rfl (memL_seg hs)) rfl rfl
theorem see_unfocus {S : Nat → Prop} {w0 w : World} {F : List Asn} {a : Nat} {s : SegV} (hs : m.segs[a]? = some s) (x y : Nat) (h : St S w0 (blk s.b [s.pv, .int .i64 x, .int .i64 y] 112 :: starL ((segL s).set 0 emp) :: starL ((memL p m).set (3 + a) emp) :: F) w) :
    St S w0 (memA p { m with segs := m.segs.set a (s.see x y) } :: F) w := by
  have h1 : St S w0 (segA (s.see x y) :: starL ((memL p m).set (3 + a) emp) :: F) w := st_put (j := 0) (i := 0) h rfl rfl
  have h2 := st_put (j := 0) (i := 3 + a) (l := (memL p m).set (3 + a) emp) h1 rfl (by
    rw [List.getElem?_set_self]
    exact (List.getElem?_eq_some_iff.1 (memL_seg hs)).1)
  rw [List.set_set, memL_set (s' := s.see x y) hs rfl] at h2
  exact h2
theorem page_focus {S : Nat → Prop} {w0 w : World} {F : List Asn} {a k : Nat} {s : SegV} {v : Value} {l : List Int} (hs : m.segs[a]? = some s) (hv : s.pgs[k]? = some v) (hl : s.s.dat[k]? = some l) (h : St S w0 (memA p m :: F) w) :
    St S w0 (bytesA v l :: starL ((segL s).set (3 + k) emp) :: starL ((memL p m).set (3 + a) emp) :: F) w :=
  st_take (j := 0) (i := 3 + k) (st_take (j := 0) (i := 3 + a) h rfl (memL_seg hs)) rfl (segL_page hv hl)
theorem page_unfocus {S : Nat → Prop} {w0 w : World} {F : List Asn} {a k : Nat} {s : SegV} {v : Value} {l : List Int} (l' : List Int) (hs : m.segs[a]? = some s) (hv : s.pgs[k]? = some v) (hl : s.s.dat[k]? = some l) (h : St S w0 (bytesA v l' :: starL ((segL s).set (3 + k) emp) :: starL ((memL p m).set (3 + a) emp) :: F) w) :
    St S w0 (memA p { m with segs := m.segs.set a (s.put k l') } :: F) w := by
  have h1 := st_put (j := 0) (i := 3 + k) h rfl (by
    rw [List.getElem?_set_self]
    exact (List.getElem?_eq_some_iff.1 (segL_page hv hl)).1)
  rw [List.set_set, segL_set hv (List.getElem?_eq_some_iff.1 hl).1] at h1
  have h2 := st_put (j := 0) (i := 3 + a) (l := (memL p m).set (3 + a) emp) (Y := segA (s.put k l')) (hp := starL ((memL p m).set (3 + a) emp) :: F) h1 rfl (by
    rw [List.getElem?_set_self]
    exact (List.getElem?_eq_some_iff.1 (memL_seg hs)).1)
  rw [List.set_set, memL_set (s' := s.put k l') hs rfl] at h2
  exact h2

/-- Is there such a page? -/
def thereM (M : Mm) (seg : Int) (ps : List Int) : Option Seg :=
  if 0 ≤ seg then match M.segs[seg.toNat]? with
    | some s => if ps.all (fun p => decide (0 ≤ p ∧ p ≤ (s.dat.length : Int) - 1)) then some s else none
    | none => none
  else none
theorem ofV_there {w : World} (h : (memA p m).C w) (seg : Int) (ps : List Int) : (∃ s, 0 ≤ seg ∧ m.segs[seg.toNat]? = some s ∧ thereM m.abs seg ps = some s.s ∧ ofV m seg ps = .pointer (some ⟨s.b, 0, none⟩)) ∨ (thereM m.abs seg ps = none ∧ ofV m seg ps = .pointer none) := by
  unfold thereM ofV
  by_cases h0 : 0 ≤ seg
  · rw [if_pos h0, if_pos h0]
    cases hs : m.segs[seg.toNat]? with
    | none => right; simp [MemV.abs, hs]
    | some s =>
      rw [abs_seg hs]
      dsimp only
      have hf : (fun p : Int => decide (0 ≤ p ∧ p ≤ (s.s.dat.length : Int) - 1)) = okPage s := by
        funext p
        rw [okPage, segA_len (memA_seg h hs)]
      rw [hf]
      cases hall : ps.all (okPage s)
      · exact .inr ⟨rfl, rfl⟩
      · exact .inl ⟨s, h0, rfl, rfl, rfl⟩
  · rw [if_neg h0, if_neg h0]
    exact .inr ⟨rfl, rfl⟩
/-- What Set leaves and tells. -/
def setM (M : Mm) (who : Nat) (seg page : Int) : Mm × Int :=
  if who = 0 ∨ who > 3 then (M, 1)
  else match thereM M seg [page] with
    | none => (M, 82)
    | some s => ({ M with segs := M.segs.set seg.toNat { s with s0 := if who = 2 then s.s0 else page.toNat, s1 := if who = 1 then s.s1 else page.toNat } }, 0)
set_option maxHeartbeats 4000000 in
theorem set_spec (hA : Hold [memA p m] w) (hk : MmOk m.abs) (who : Nat) (seg page : Int) (hw : who ≤ 255) :
    Calls Try.prog 23 #[.pointer (some ⟨p, 0, none⟩), .int .u8 who, .int .i64 seg, .int .i64 page] w (Ret w [memA p m] (WriteR p (setM m.abs who seg page))) := by
  refine enter (vs := [.pointer (some ⟨p, 0, none⟩), .int .u8 who, .int .i64 seg, .int .i64 page]) Try.func23 rfl Try.ntmps23 rfl hA ?_
  have hh : (memA p m).C w := hA.all _ (by simp)
  by_cases h1 : who = 0 ∨ who > 3
  · have e1 : setM m.abs who seg page = (m.abs, 1) := by rw [setM, if_pos h1]
    rcases h1 with h1 | h1
    all_goals
      (repeat (first | (refine i_dst ?_; (first | (refine i_move ?_; refine l_q rfl rfl rfl (q_move rfl) ?_) | (refine i_assign ?_; refine l_q rfl rfl rfl (q_assign rfl) ?_) | (refine i_bin ?_; refine l_q rfl rfl rfl (by (first | exact q_eql rfl rfl | exact q_gtr rfl rfl | exact q_eqnil tab rfl rfl rfl)) ?_) | refine l_q rfl rfl rfl (by (first | exact q_pick_t rfl rfl | exact q_pick_f rfl rfl)) ?_)) | refine c_seq (fun K hK => ?_) | refine c_region ?_ | refine l_nil ?_ | refine t_then ?_ | (refine i_k ?_; (((refine hK _ _ ?_; clear hK)))) | refine c_block ?_ | (refine i_q ?_; (first | refine t_then_ret ?_ | refine t_block_ret ?_)) | refine c_ret ?_ | (refine i_guard ?_; (first | refine l_gt rfl rfl rfl ?_ | refine l_gf rfl rfl rfl rfl rfl rfl ?_ | (refine l_gtd rfl rfl rfl (by ((simp; omega))) ?_) | (refine l_gfd rfl rfl rfl (by ((simp; omega))) rfl rfl ?_))) | (refine i_cond ?_; (first | refine c_ct rfl (by (first | rfl | exact decide_eq_true (by omega))) ?_ | refine c_cf rfl (by (rfl)) ?_))))
      exact t_ret1 Try.results23 rfl ⟨m, rfl, by rw [e1], by rw [e1]⟩
  · have h2 : ¬ who = 0 := by omega
    have h3 : ¬ who > 3 := by omega
    (repeat (first | (refine i_dst ?_; (first | (refine i_move ?_; refine l_q rfl rfl rfl (q_move rfl) ?_) | (refine i_assign ?_; refine l_q rfl rfl rfl (q_assign rfl) ?_) | (refine i_bin ?_; refine l_q rfl rfl rfl (by (first | exact q_eql rfl rfl | exact q_gtr rfl rfl | exact q_eqnil tab rfl rfl rfl)) ?_) | refine l_q rfl rfl rfl (by (exact q_pick_f rfl rfl)) ?_)) | refine c_seq (fun K hK => ?_) | refine c_region ?_ | refine l_nil ?_ | refine t_then ?_ | (refine i_k ?_; (((refine hK _ _ ?_; clear hK)))) | refine c_block ?_ | (refine i_q ?_; (refine t_block ?_)) | refine c_skip ?_ | (refine i_guard ?_; (first | refine l_gt rfl rfl rfl ?_ | (refine l_gtd rfl rfl rfl (by ((simp; omega))) ?_))) | (refine i_cond ?_; (refine c_cf rfl (by (first | rfl | exact decide_eq_false (by omega))) ?_))))
    refine l_op rfl (fun K hK => e_buildSlice (l := [.int .i64 page]) (e := 3) rfl rfl (fun w => by kernel_rfl) (fun g => hK _ _ ?_))
    clear hK
    (repeat fail)
    refine l_op rfl (fun K hK => e_call0 rfl rfl Try.func51 rfl (by decide) (fun w' h => of_spec (roHp0 h (i := 1) rfl) hk seg _ 1 1 [page] (Ro.empty (roV_blk (h.get (i := 0) rfl) rfl)) (by omega)) (fun v B hv => hK _ _ ?_))
    obtain ⟨rfl, rfl⟩ := hv
    clear hK
    rcases ofV_there hh seg [page] with ⟨s, hs0, hs, ht, hv⟩ | ⟨ht, hv⟩
    · rw [hv]
      have hpg : 0 ≤ page ∧ page ≤ (s.s.dat.length : Int) - 1 := by
        unfold thereM at ht
        rw [if_pos hs0, abs_seg hs] at ht
        simp only [List.all_cons, List.all_nil, Bool.and_true, decide_eq_true_eq] at ht
        split at ht
        · assumption
        · cases ht
      obtain ⟨pg, rfl⟩ : ∃ pg : Nat, page = pg := ⟨page.toNat, by omega⟩
      (repeat (first | (refine i_dst ?_; (first | (refine i_move ?_; refine l_q rfl rfl rfl (q_move rfl) ?_) | (refine i_assign ?_; refine l_q rfl rfl rfl (q_assign rfl) ?_) | (refine i_bin ?_; refine l_q rfl rfl rfl (by (exact q_eqnil tab rfl rfl rfl)) ?_))) | refine c_seq (fun K hK => ?_) | refine c_region ?_ | refine l_nil ?_ | refine t_then ?_ | (refine i_k ?_; (((refine hK _ _ ?_; clear hK)))) | refine c_skip ?_ | (refine i_cond ?_; (refine c_cf rfl (by (rfl)) ?_))))
      refine l_op rfl (fun K hK => e_buildSlice (l := [.int .u8 1, .int .u8 2]) (e := 5) rfl rfl (fun w => by kernel_rfl) (fun g2 => hK _ _ ?_))
      clear hK
      (repeat (first | (refine i_dst ?_; (first | (refine i_move ?_; refine l_q rfl rfl rfl (q_move rfl) ?_) | (refine i_blt ?_; refine l_q rfl rfl rfl (by (exact q_len tab rfl rfl)) ?_))) | refine l_nil ?_ | refine t_then ?_ | (refine i_k ?_; (((refine hK _ _ ?_; clear hK)))) | refine c_block ?_))
      obtain ⟨f0, hf0⟩ : ∃ f0 : Nat → Nat, f0 = fun k => if 1 ≤ k ∧ who ≠ 2 then pg else s.s.s0 := ⟨_, rfl⟩
      obtain ⟨f1, hf1⟩ : ∃ f1 : Nat → Nat, f1 = fun k => if 2 ≤ k ∧ who ≠ 1 then pg else s.s.s1 := ⟨_, rfl⟩
      refine c_loop (T := Nat) (fun k => [(1, .int .u8 who), (3, .int .i64 pg), (9, .pointer (some ⟨s.b, 0, none⟩)), (29, .slice (some ⟨g2, 0, none⟩) 2 2), (30, .int .i64 2), (31, .int .i64 k)])
        (fun k => [blk s.b [s.pv, .int .i64 (f0 k), .int .i64 (f1 k)] 112, starL ((segL s).set 0 emp), starL ((memL p m).set (3 + seg.toNat) emp), blk g2 [.int .u8 1, .int .u8 2] 5]) (fun k => k ≤ 2) (fun k => 2 - k) 0 (by omega) ⟨rfl, rfl, rfl, rfl, rfl, rfl, trivial⟩ (fun w h => ?_) ?_
      · have := see_focus (F := [blk g2 [.int .u8 1, .int .u8 2] 5]) hs (h.pick [2, 0] rfl)
        subst hf0 hf1
        exact this
      intro k hk2
      have hw3 : who = 1 ∨ who = 2 ∨ who = 3 := by omega
      rcases (by omega : k = 0 ∨ k = 1 ∨ k = 2) with rfl | rfl | rfl
      · rcases hw3 with rfl | rfl | rfl
        all_goals
          subst hf0 hf1
          (repeat (first | (refine i_dst ?_; (first | (refine i_move ?_; refine l_q rfl rfl rfl (q_move rfl) ?_) | (refine i_assign ?_; refine l_q rfl rfl rfl (q_assign rfl) ?_) | (refine i_load ?_; refine l_q rfl rfl rfl (by (exact q_load tab rfl rfl rfl (fun w h => blk_cell (h.get (i := 3) rfl) rfl))) ?_) | (refine i_bin ?_; refine l_q rfl rfl rfl (by (first | exact q_lss rfl rfl | exact q_neq rfl rfl | exact q_add rfl rfl (by (first | exact wr_i64 (by omega) | rfl)) | exact q_bits rfl rfl rfl (fun w => rfl))) ?_) | (refine i_ix ?_; refine l_q rfl rfl rfl (by (first | exact q_indexAddr1 tab rfl rfl rfl rfl (by omega) | exact q_indexAddrA1 tab rfl rfl rfl rfl (by omega))) ?_) | refine l_q rfl rfl rfl (by (first | exact q_fieldAddr tab rfl rfl rfl rfl rfl rfl rfl | exact q_nilck rfl)) ?_)) | refine c_seq (fun K hK => ?_) | refine c_region ?_ | refine l_nil ?_ | refine t_then ?_ | (refine i_k ?_; (((refine hK _ _ ?_; clear hK)))) | refine c_block ?_ | (refine i_q ?_; (refine t_block ?_)) | refine c_skip ?_ | (refine i_store ?_; ((refine l_op rfl (fun K hK => e_store1 tab rfl rfl (i := 0) rfl rfl (by (exact Nat.le_of_ble_eq_true rfl)) rfl (hK _ _ ?_)); clear hK))) | (refine i_cond ?_; (first | refine c_ct rfl (by (rfl)) ?_ | refine c_cf rfl (by (rfl)) ?_))))
          exact k_again 1 (by omega) (by omega) ⟨rfl, rfl, rfl, rfl, rfl, rfl, trivial⟩ (fun w h => h)
      · rcases hw3 with rfl | rfl | rfl
        all_goals
          subst hf0 hf1
          (repeat (first | (refine i_dst ?_; (first | (refine i_move ?_; refine l_q rfl rfl rfl (q_move rfl) ?_) | (refine i_assign ?_; refine l_q rfl rfl rfl (q_assign rfl) ?_) | (refine i_load ?_; refine l_q rfl rfl rfl (by (exact q_load tab rfl rfl rfl (fun w h => blk_cell (h.get (i := 3) rfl) rfl))) ?_) | (refine i_bin ?_; refine l_q rfl rfl rfl (by (first | exact q_lss rfl rfl | exact q_neq rfl rfl | exact q_add rfl rfl (by (first | exact wr_i64 (by omega) | rfl)) | exact q_bits rfl rfl rfl (fun w => rfl))) ?_) | (refine i_ix ?_; refine l_q rfl rfl rfl (by (first | exact q_indexAddr1 tab rfl rfl rfl rfl (by omega) | exact q_indexAddrA1 tab rfl rfl rfl rfl (by omega))) ?_) | refine l_q rfl rfl rfl (by (first | exact q_fieldAddr tab rfl rfl rfl rfl rfl rfl rfl | exact q_nilck rfl)) ?_)) | refine c_seq (fun K hK => ?_) | refine c_region ?_ | refine l_nil ?_ | refine t_then ?_ | (refine i_k ?_; (((refine hK _ _ ?_; clear hK)))) | refine c_block ?_ | (refine i_q ?_; (refine t_block ?_)) | refine c_skip ?_ | (refine i_store ?_; ((refine l_op rfl (fun K hK => e_store1 tab rfl rfl (i := 0) rfl rfl (by (exact Nat.le_of_ble_eq_true rfl)) rfl (hK _ _ ?_)); clear hK))) | (refine i_cond ?_; (first | refine c_ct rfl (by (rfl)) ?_ | refine c_cf rfl (by (rfl)) ?_))))
          exact k_again 2 (by omega) (by omega) ⟨rfl, rfl, rfl, rfl, rfl, rfl, trivial⟩ (fun w h => h)
      · (repeat (first | (refine i_dst ?_; (first | (refine i_assign ?_; refine l_q rfl rfl rfl (q_assign rfl) ?_) | (refine i_bin ?_; refine l_q rfl rfl rfl (by (exact q_lss rfl rfl)) ?_))) | refine c_seq (fun K hK => ?_) | refine c_region ?_ | refine l_nil ?_ | refine t_then ?_ | (refine i_k ?_; (first | ((refine hK _ _ ?_; clear hK)) | ((clear hK; refine hK _ _ ?_; clear hK)))) | (refine i_q ?_; (first | refine t_then_exit ?_ | refine t_block_eq rfl ?_)) | refine c_exit ?_ | refine c_ret ?_ | (refine i_cond ?_; (refine c_cf rfl (by (rfl)) ?_))))
        refine t_hp (hp' := [memA p { m with segs := m.segs.set seg.toNat (s.see (f0 2) (f1 2)) }]) (fun w h => (see_unfocus hs _ _ h).pick [0] rfl) (t_ret1 Try.results23 rfl ⟨_, rfl, ?_, ?_⟩)
        · rw [setM, if_neg h1, ht]
          simp only [MemV.abs, List.map_set, SegV.see, hf0, hf1, Int.toNat_natCast]
          congr 3
          · by_cases h : who = 2 <;> simp [h]
          · by_cases h : who = 1 <;> simp [h]
        · rw [setM, if_neg h1, ht]
    · rw [hv]
      have e1 : setM m.abs who seg page = (m.abs, 82) := by rw [setM, if_neg h1, ht]
      (repeat (first | (refine i_dst ?_; (first | (refine i_move ?_; refine l_q rfl rfl rfl (q_move rfl) ?_) | (refine i_assign ?_; refine l_q rfl rfl rfl (q_assign rfl) ?_) | (refine i_bin ?_; refine l_q rfl rfl rfl (by (exact q_eqnil tab rfl rfl rfl)) ?_))) | refine c_seq (fun K hK => ?_) | refine c_region ?_ | refine l_nil ?_ | refine t_then ?_ | (refine i_k ?_; (((refine hK _ _ ?_; clear hK)))) | (refine i_q ?_; (refine t_then_ret ?_)) | refine c_ret ?_ | (refine i_cond ?_; (refine c_ct rfl (by (rfl)) ?_))))
      exact t_hp (hp' := [memA p m]) (fun w h => h.pick [1] rfl) (t_ret1 Try.results23 rfl ⟨m, rfl, by rw [e1], by rw [e1]⟩)
end
end Go.Proofs.Ytkeekkdaielipaa

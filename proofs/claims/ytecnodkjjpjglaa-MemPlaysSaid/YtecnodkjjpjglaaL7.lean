/-
  Layer 8: MemFixed, walked.
-/
import Derived.Test.YtecnodkjjpjglaaL6
import Derived.Test.YtecnodkjjpjglaaI1
set_option linter.unusedVariables false
set_option maxRecDepth 100000
namespace Go.Proofs.Ytecnodkjjpjglaa
open Go.RowKit
attribute [local irreducible] TL TC TQ TK TO Qt TA

attribute [local irreducible] blk row bytesA starL memA segA roB


theorem InAct.to {S S' : Nat → Prop} {w0 w1 : World} {v : List Value} {a : ActI} (h : InAct S w0 v a) (hr : ∀ r, Ro S w0 r → Ro S' w1 r) : InAct S' w1 v a := by
  obtain ⟨⟨A, k, c, h1, h2, h3⟩, h4, h5, h6, h7, h8, h9⟩ := h
  exact ⟨⟨A, k, c, h1, hr _ h2, h3⟩, h4, h5, h6, h7, h8, h9⟩
/-- The bytes of the first pages. -/
def fixF (x : MapI) (i : Nat) : List Int := (List.range (x.segs.getD i (0, 0)).1.toNat).map fun (k : Nat) => 17 * (i : Int) + (k : Int)
def fixM (x : MapI) : MapI := ⟨(goodM x).ram, (goodM x).segs, (List.range (goodM x).segs.length).map (fixF (goodM x))⟩

theorem length_fixF {x : MapI} {i : Nat} {s : Int × Int} (hs : x.segs[i]? = some s) : (fixF x i).length = s.1.toNat := by simp [fixF, List.getD_eq_getElem?_getD, hs]
theorem fixF_oct {x : MapI} {i ln : Nat} {s2 : Int} (hs : (goodM x).segs[i]? = some ((ln : Int), s2)) : Oct (fixF (goodM x) i) := fun y hy => by
  have hi := (List.getElem?_eq_some_iff.1 hs).1
  have h4 := (good_ok x).2.2.1
  have hg := good_seg hs
  simp only [fixF, List.getD_eq_getElem?_getD, hs, List.mem_map, List.mem_range] at hy
  obtain ⟨j, hj, rfl⟩ := hy
  simp at hj hg
  omega
theorem fix_ok (x : MapI) : okMap (fixM x) := by
  obtain ⟨h1, h2, h3, h4, h5⟩ := good_ok x
  refine ⟨h1, h2, h3, by simp [fixM], fun i s hs => ?_⟩
  have hi := (List.getElem?_eq_some_iff.1 hs).1
  obtain ⟨k1, k2, k3, k4, _⟩ := h5 i s hs
  refine ⟨k1, k2, k3, k4, ?_⟩
  have e : flashOf (fixM x) i = fixF (goodM x) i := by
    have hi' : i < (goodM x).segs.length := hi
    simp [flashOf, fixM, List.getD_eq_getElem?_getD, hi']
  rw [e, length_fixF (x := goodM x) hs]
  omega
theorem fix_seg {x : MapI} {i : Nat} {s : Int × Int} (hs : (goodM x).segs[i]? = some s) : ∃ t, (newM (fixM x)).segs[i]? = some t ∧ t.ln = s.1.toNat ∧ t.dat[0]? = some (fixF (goodM x) i) := by
  have hi := (List.getElem?_eq_some_iff.1 hs).1
  refine ⟨_, newSegs_get (x := fixM x) (k := (goodM x).segs.length) hi hs, rfl, ?_⟩
  have e : flashOf (fixM x) i = fixF (goodM x) i := by
    simp [flashOf, fixM, List.getD_eq_getElem?_getD, hi]
  simp [segOf, e, length_fixF (x := goodM x) hs]
theorem inbb_of {w : World} {A : Option Addr} {n c : Nat} {vals : List Value} {fl : List (List Int)} (h1 : (row 37 1 (.slice A n c) n vals).C w) (h2 : (starL (List.zipWith bytesA vals fl)).C w) (hl : vals.length = n) (hf : fl.length = n) : InBB (fps []) w A n fl := by
  have h3 := roV_row h1
  rw [Nat.mul_one] at h3
  refine ⟨hf, vals, Ro.empty h3, fun i l hil => ?_⟩
  have hi := (List.getElem?_eq_some_iff.1 hil).1
  obtain ⟨v, hv⟩ : ∃ v, vals[i]? = some v := ⟨_, List.getElem?_eq_getElem (by omega)⟩
  have h4 := starL_get h2 (i := i) (X := bytesA v l) (by simp [List.getElem?_zipWith, hv, hil])
  obtain ⟨B, c', rfl, k1, k2, k3, _⟩ := bytesA_ro h4
  have e := roB_len k3
  exact ⟨B, l.length, c', hv, k1, k2, Ro.empty k3⟩
theorem fix_law {x : MapI} {M : Mm} {k : Nat} {s : Int × Int} (hs : (goodM x).segs[k]? = some s) (h1 : Same0 (newM (fixM x)) M) (hk : MmOk M) : (setM M 1 k 0).2 = 0 ∧ readM (setM M 1 k 0).1 1 (k + 1) 0 s.1 = (fixF (goodM x) k, 0) := by
  obtain ⟨t, e1, e2, e3⟩ := fix_seg hs
  obtain ⟨t', k1, k2, k3, k4⟩ := h1.seg k t e1
  have hg := good_seg hs
  have h0 := (hk.segs t' (List.mem_of_getElem? k1)).h0
  have e4 := set_of (w := 1) (p := 0) k1 (by omega) (by omega)
  rw [show ((0 : Nat) : Int) = 0 from rfl] at e4
  rw [e4]
  refine ⟨rfl, ?_⟩
  have hl := length_fixF (x := goodM x) hs
  obtain ⟨M', hM'⟩ : ∃ M' : Mm, M' = ⟨M.ram, M.segs.set k ⟨t'.ln, t'.dat, if 1 = 2 then t'.s0 else 0, if 1 = 1 then t'.s1 else 0⟩⟩ := ⟨_, rfl⟩
  have g : M'.segs[k]? = some ⟨t'.ln, t'.dat, 0, t'.s1⟩ := by rw [hM']; exact get_set k1
  have e5 := read_of (w := 1) (c := fixF (goodM x) k) (l := fixF (goodM x) k) g (by rw [← e3, ← k4]; rfl) (.inl rfl) (by simp)
  rw [hl, show ((s.1.toNat : Nat) : Int) = s.1 by omega] at e5
  rw [← hM']
  exact e5

set_option maxHeartbeats 8000000 in
theorem memFixed_walk (v : Value) (x : MapI) (W : World) (hx : InMap (fps []) W v x) (A : Option Addr) (n c : Nat) (acts : List ActI) (ha : InS (fps []) W 7 (InAct (fps []) W) A n acts) (hnc : n ≤ c) (hcm : c ≤ maxLen) :
    Calls Try.prog 4 #[v, .slice A n c] W (Ret W [] fun v _ => v = .bool true) := by
  obtain ⟨A0, c0, A0', n0', c0', hv, hq0⟩ := hx.is
  clear hq0
  subst hv
  refine enter (vs := [.agg #[.int .i64 x.ram, .slice A0 x.segs.length c0, .slice A0' n0' c0'], .slice A n c]) Try.func4 rfl Try.ntmps4 rfl (Hold.nil W) ?_
  have hmx : maxLen = 2 ^ 63 - 1 := rfl
  (repeat (first | (refine i_dst ?_; (first | (refine i_assign ?_; refine l_q rfl rfl rfl (q_assign rfl) ?_) | (refine i_box ?_; (refine l_boxA rfl rfl (fun _ => ?_))))) | refine d_seq ?_ | refine c_region ?_ | refine l_nil ?_ | (refine i_q ?_; (refine d_then ?_))))
  (refine l_call0 rfl rfl Try.func13 rfl (by decide) (fun w' h => shown_spec w') (fun v B hv => ?_); obtain ⟨rfl, rfl⟩ := hv)
  (repeat (first | (refine i_dst ?_; (first | (refine i_assign ?_; refine l_q rfl rfl rfl (q_assign rfl) ?_) | (refine i_load ?_; refine l_q rfl rfl rfl (by ((exact q_ldN tab rfl rfl rfl rfl (by first | ((repeat (first | exact List.Mem.head _ | apply List.Mem.tail)); done) | fail) (by first | ((repeat (first | exact TakeR.nil | apply TakeR.cons | apply CutR.zero | apply CutR.skip)); done) | fail)))) ?_))) | refine d_seq ?_ | refine c_region ?_ | refine l_nil ?_ | (refine i_q ?_; (refine d_then ?_))))
  (refine l_call0 rfl rfl Try.func24 rfl (by decide) (fun w' h => good_spec _ x w' (hx.to0 h)) (fun v B hv => ?_); obtain ⟨A1, c1, rfl, hc1, hc2, rfl⟩ := hv)
  (repeat (first | (refine i_dst ?_; (first | (refine i_move ?_; refine l_q rfl rfl rfl (q_move rfl) ?_) | (refine i_load ?_; refine l_q rfl rfl rfl (by ((exact q_ld1 tab rfl rfl rfl (by first | ((repeat (first | exact List.Mem.head _ | apply List.Mem.tail)); done) | fail) (by (rfl))))) ?_) | (refine i_blt ?_; refine l_q rfl rfl rfl (by (exact q_len tab rfl rfl)) ?_) | (refine i_alloc ?_; (refine l_allocA tab rfl rfl (fun _ => ?_))) | (refine l_q rfl rfl rfl (by ((apply iq_fld; (exact q_fieldAddr tab rfl rfl rfl rfl rfl rfl rfl)))) ?_))) | refine d_seq ?_ | refine c_region ?_ | refine l_nil ?_ | refine c_block ?_ | (refine i_q ?_; (refine d_then ?_)) | (refine i_store ?_; ((refine l_setN tab rfl rfl rfl rfl (List.cons_ne_nil _ _) rfl (by first | ((repeat (first | exact Upd.head | apply Upd.tail)); done) | fail) (by first | ((repeat (first | exact LSets.nil | exact LSet.zero | apply LSets.cons | apply LSet.succ)); done) | fail) ?_)))))
  rename_i b2 b6
  have hsl : (goodM x).segs.length ≤ 4 := (good_ok x).2.2.1
  refine d_loop (T := Nat × Option Addr × Nat × List Value) [1, 5, 6, 24, 25] (fun t => [(26, .int .i64 t.1)]) [row 53 2 (.slice A1 (goodM x).segs.length c1) (goodM x).segs.length (segCells (goodM x).segs)]
    (fun t => [blk b6 [.int .i64 (goodM x).ram, .slice A1 (goodM x).segs.length c1, .slice t.2.1 t.1 t.2.2.1] 25, row 37 1 (.slice t.2.1 t.1 t.2.2.1) t.1 t.2.2.2, starL (List.zipWith bytesA t.2.2.2 ((List.range t.1).map (fixF (goodM x))))])
    (fun t => t.1 ≤ (goodM x).segs.length ∧ t.2.2.2.length = t.1) (fun t => (goodM x).segs.length - t.1) (0, none, 0, []) (by first | ((repeat (first | exact Pick.nil | exact rfl | apply Pick.cons)); done) | fail) ⟨Nat.zero_le _, rfl⟩ ⟨rfl, trivial⟩ (fun w h => (st_nil (st_star0 h) 37 1).pick [2, 0, 1, 3] rfl) ?_
  rintro ⟨k, A2, c2, vals⟩ ⟨hk, hvl⟩
  dsimp only at hk hvl ⊢
  by_cases hlt : k < (goodM x).segs.length
  · obtain ⟨⟨s1, s2⟩, hsk⟩ : ∃ sg, (goodM x).segs[k]? = some sg := ⟨_, List.getElem?_eq_getElem hlt⟩
    have hg := good_seg hsk
    obtain ⟨ln, rfl⟩ : ∃ ln : Nat, s1 = ln := ⟨s1.toNat, by omega⟩
    dsimp only at hg
    (repeat (first | (refine i_dst ?_; (first | (refine i_move ?_; refine l_q rfl rfl rfl (q_move rfl) ?_) | (refine i_assign ?_; refine l_q rfl rfl rfl (q_assign rfl) ?_) | (refine i_load ?_; refine l_q rfl rfl rfl (by (first | (exact q_ld1 tab rfl rfl rfl (by first | ((repeat (first | exact List.Mem.head _ | apply List.Mem.tail)); done) | fail) (by (rfl))) | (exact q_ldFN tab rfl rfl rfl rfl (by ((exact fun w h => row_src (h.mem (by first | ((repeat (first | exact List.Mem.head _ | apply List.Mem.tail)); done) | fail))))) (by exact fun _ => rfl) (by assumption) (by exact rfl) (by exact List.cons_ne_nil _ _)))) ?_) | (refine i_bin ?_; refine l_q rfl rfl rfl (by (exact q_lss rfl rfl)) ?_) | (refine i_blt ?_; refine l_q rfl rfl rfl (by (exact q_len tab rfl rfl)) ?_) | (refine i_ix ?_; refine l_q rfl rfl rfl (by ((exact q_ixSN tab rfl rfl rfl rfl (by ((exact fun w h => row_src (h.mem (by first | ((repeat (first | exact List.Mem.head _ | apply List.Mem.tail)); done) | fail))))) (by first | (with_reducible exact Int.toNat_natCast _) | (with_reducible exact Int.toNat_zero) | (with_reducible exact Int.toNat_one) | rfl) (by (omega)) (by (omega))))) ?_) | (refine i_alloc ?_; (refine l_allocA tab rfl rfl (fun _ => ?_))) | (refine i_mk ?_; refine l_make rfl rfl rfl (fun w => run_makeN tab rfl rfl rfl (by (omega)) (by (omega)) w) (fun _ => ?_)) | (refine l_q rfl rfl rfl (by ((apply iq_fld; (exact q_fieldAddr tab rfl rfl rfl rfl rfl rfl rfl)))) ?_))) | refine d_seq ?_ | refine c_region ?_ | refine l_nil ?_ | refine c_block ?_ | (refine i_q ?_; (refine d_then ?_)) | refine c_skip ?_ | (refine i_store ?_; ((refine l_setN tab rfl rfl rfl rfl (List.cons_ne_nil _ _) rfl (by first | ((repeat (first | exact Upd.head | apply Upd.tail)); done) | fail) (by first | ((repeat (first | exact LSets.nil | exact LSet.zero | apply LSets.cons | apply LSet.succ)); done) | fail) ?_))) | (refine i_cond ?_; (refine c_ct rfl (by (exact decide_eq_true (by omega))) ?_))))
    rename_i b8 g9
    refine d_loop (T := Nat) [1, 5, 6, 7, 9, 24, 25, 26, 35] (fun j => [(36, .int .i64 j)]) [blk b6 [.int .i64 (goodM x).ram, .slice A1 (goodM x).segs.length c1, .slice A2 k c2] 25, row 37 1 (.slice A2 k c2) k vals, starL (List.zipWith bytesA vals ((List.range k).map (fixF (goodM x)))), row 53 2 (.slice A1 (goodM x).segs.length c1) (goodM x).segs.length (segCells (goodM x).segs)]
      (fun j => [blk g9 (bv ((fixF (goodM x) k).take j) ++ List.replicate (ln - j) (Value.int .u8 0)) 5]) (fun j => j ≤ ln) (fun j => ln - j) 0 (by first | ((repeat (first | exact Pick.nil | exact rfl | apply Pick.cons)); done) | fail) (Nat.zero_le _) ⟨rfl, trivial⟩ (fun w h => h.pick [0, 2, 3, 4, 5] rfl) ?_
    have hfl : (fixF (goodM x) k).length = ln := by have := length_fixF hsk; simpa using this
    intro j hj
    by_cases hjl : j < ln
    · (repeat (first | (refine i_dst ?_; (first | (refine i_move ?_; refine l_q rfl rfl rfl (q_move rfl) ?_) | (refine i_assign ?_; refine l_q rfl rfl rfl (q_assign rfl) ?_) | (refine i_bin ?_; refine l_q rfl rfl rfl (by (first | exact q_lss rfl rfl | exact q_add rfl rfl (by (first | exact wr_i64 (by omega) | rfl)) | exact q_mul rfl rfl (by (exact wr_i64 (by omega))))) ?_) | (refine i_ix ?_; refine l_q rfl rfl rfl (by (exact q_indexAddr1 tab rfl rfl rfl rfl (by omega))) ?_) | (refine l_q rfl rfl rfl (by ((apply iq_cv; (exact q_conv tab rfl rfl rfl (by (exact wr_u8 (by omega))))))) ?_))) | refine d_seq ?_ | refine c_region ?_ | refine l_nil ?_ | refine c_block ?_ | (refine i_q ?_; (first | refine d_then ?_ | refine t_then ?_ | refine t_block ?_)) | refine c_skip ?_ | (refine i_store ?_; ((refine l_setI tab rfl rfl rfl rfl (by first | ((repeat (first | exact Upd.head | apply Upd.tail)); done) | fail) (by ((simp; omega))) ?_))) | (refine i_cond ?_; (refine c_ct rfl (by (exact decide_eq_true (by omega))) ?_))))
      refine k_again (j + 1) (by omega) (by omega) (by first | ((repeat (first | exact trivial | exact rfl | apply Sub.cons | exact look_int rfl (by omega) | exact look_int rfl (by simp) | exact look_int rfl (by simp; omega))); done) | fail) (fun w h => ?_)
      have e1 : (bv ((fixF (goodM x) k).take j) ++ List.replicate (ln - j) (Value.int .u8 0)).set (0 + ((j : Nat) : Int).toNat) (.int .u8 (17 * (k : Int) + (j : Int))) = bv ((fixF (goodM x) k).take (j + 1)) ++ List.replicate (ln - (j + 1)) (Value.int .u8 0) := by
        have hjf : (fixF (goodM x) k)[j]? = some (17 * (k : Int) + (j : Int)) := by simp [fixF, List.getD_eq_getElem?_getD, hsk, hjl]
        rw [Int.toNat_natCast, Nat.zero_add, List.take_add_one, hjf, bv_append, List.set_append_right _ _ (by rw [length_bv, List.length_take]; omega), length_bv, List.length_take, Nat.min_eq_left (by omega), Nat.sub_self, show ln - j = (ln - (j + 1)) + 1 by omega, List.replicate_succ, List.set_cons_zero, List.append_assoc]
        rfl
      rw [e1] at h
      exact h
    · have hjn : j = ln := by omega
      subst hjn
      have e1 : bv ((fixF (goodM x) k).take j) ++ List.replicate (j - j) (Value.int .u8 0) = bv (fixF (goodM x) k) := by
        rw [List.take_of_length_le (by omega), Nat.sub_self]
        simp
      rw [e1]
      (repeat (first | (refine i_dst ?_; (first | (refine i_move ?_; refine l_q rfl rfl rfl (q_move rfl) ?_) | (refine i_load ?_; refine l_q rfl rfl rfl (by ((exact q_ld1 tab rfl rfl rfl (by first | ((repeat (first | exact List.Mem.head _ | apply List.Mem.tail)); done) | fail) (by (rfl))))) ?_) | (refine i_bin ?_; refine l_q rfl rfl rfl (by (exact q_lss rfl rfl)) ?_) | (refine i_bldS ?_; refine l_bldS tab rfl rfl rfl rfl (by first | exact CellsOf.agg | exact CellsOf.one rfl) (by first | ((repeat (first | exact RepR.zero | exact AppR.nil | apply RepR.succ | apply AppR.cons)); done) | fail) (by first | ((repeat (first | exact FillR.nil | exact LSets.nil | exact LSet.zero | exact CellsOf.agg | exact rfl | exact CellsOf.one rfl | apply FillR.cons | apply LSets.cons | apply LSet.succ)); done) | fail) (fun w => by kernel_rfl) (fun _ => ?_)) | (refine l_q rfl rfl rfl (by ((apply iq_fld; (exact q_fieldAddr tab rfl rfl rfl rfl rfl rfl rfl)))) ?_))) | refine d_seq ?_ | refine c_region ?_ | refine l_nil ?_ | (refine i_q ?_; (first | refine d_then ?_ | refine d_then_exit ?_ | refine t_then_exit ?_ | refine t_block_eq rfl ?_)) | refine c_exit ?_ | (refine i_cond ?_; ((refine c_cf rfl (by (((first | (simp; done) | fail)))) ?_)))))
      (refine l_app tab rfl rfl rfl rowBB (by first | ((repeat (first | exact Ext.head | apply Ext.tail)); done) | fail) (news := [.slice (some ⟨g9, 0, none⟩) j j]) (fun w h => SrcAt.blk (h.mem (by first | ((repeat (first | exact List.Mem.head _ | apply List.Mem.tail)); done) | fail)) rfl) (by simp [Value.oneCell']) (by omega) (by omega) (fun A3 c3 hA1 hA2 => ?_))
      (repeat (first | (refine i_dst ?_; (first | (refine i_move ?_; refine l_q rfl rfl rfl (q_move rfl) ?_) | (refine i_bin ?_; refine l_q rfl rfl rfl (by (exact q_add rfl rfl (by (exact wr_i64 (by omega))))) ?_) | (refine l_q rfl rfl rfl (by ((apply iq_fld; (exact q_fieldAddr tab rfl rfl rfl rfl rfl rfl rfl)))) ?_))) | refine c_region ?_ | refine l_nil ?_ | (refine i_q ?_; (first | refine d_then ?_ | refine t_then ?_ | refine t_block ?_)) | (refine i_store ?_; ((refine l_set tab rfl rfl rfl rfl (by first | ((repeat (first | exact Upd.head | apply Upd.tail)); done) | fail) (by first | ((repeat (first | exact LSet.zero | apply LSet.succ)); done) | fail) ?_)))))
      refine k_again (k + 1, A3, c3, vals ++ [.slice (some ⟨g9, 0, none⟩) j j]) ⟨by dsimp only; omega, by simp [hvl]⟩ (by dsimp only; omega) (by first | ((repeat (first | exact trivial | exact rfl | apply Sub.cons | exact look_int rfl (by omega) | exact look_int rfl (by simp) | exact look_int rfl (by simp; omega))); done) | fail) (fun w h => ?_)
      have h1 := h.see (i := 2) (Y := bytesA (.slice (some ⟨g9, 0, none⟩) j j) (fixF (goodM x) k)) rfl (fun h => ?_) (fun b hb => blk_S (bytesA_S hb))
      · have h2 := st_starS (by simp [hvl]) (h1.pick [2, 4, 0, 3, 5] rfl)
        dsimp only
        rw [List.range_succ, List.map_append]
        exact h2.pick [2, 1, 0, 3] rfl
      · have h3 := bytesA_shut (c := j) (junk := []) (by simpa using h) (fixF_oct hsk) (by simpa using hfl) (by omega)
        rw [hfl] at h3
        exact h3
  · have hkn : k = (goodM x).segs.length := by omega
    subst hkn
    refine c_fact (p := c2 ≤ maxLen ∧ (goodM x).segs.length ≤ c2) (fun w h => ?_) (fun hc2f => ?_)
    · obtain ⟨_, _, q1, q2, q3, _⟩ := row_slice (h.get (i := 1) rfl)
      injection q1 with q0 q1 q4
      subst q4
      exact ⟨q3, q2⟩
    (repeat (first | (refine i_dst ?_; (first | (refine i_load ?_; refine l_q rfl rfl rfl (by ((exact q_ldN tab rfl rfl rfl rfl (by first | ((repeat (first | exact List.Mem.head _ | apply List.Mem.tail)); done) | fail) (by first | ((repeat (first | exact TakeR.nil | apply TakeR.cons | apply CutR.zero | apply CutR.skip)); done) | fail)))) ?_) | (refine i_bin ?_; refine l_q rfl rfl rfl (by (exact q_lss rfl rfl)) ?_))) | refine d_seq ?_ | refine c_region ?_ | refine l_nil ?_ | (refine i_q ?_; (first | refine d_then ?_ | refine d_then_exit ?_ | refine t_then_exit ?_ | refine t_block_eq rfl ?_)) | refine c_exit ?_ | (refine i_cond ?_; ((refine c_cf rfl (by (((first | (simp; done) | fail)))) ?_)))))
    (refine l_call0 rfl rfl Try.func14 rfl (by decide) (fun w' h => new_spec _ (fixM x) w' ⟨⟨A1, c1, A2, (goodM x).segs.length, c2, rfl, hc1, hc2, Ro.empty (roV_row (h.mem (by first | ((repeat (first | exact List.Mem.head _ | apply List.Mem.tail)); done) | fail))), inbb_of (h.get (i := 1) rfl) (h.get (i := 2) rfl) hvl (by simp [fixM]), hc2f.2, hc2f.1⟩⟩) (fun v B hv => ?_); obtain ⟨_, p, m, rfl, rfl, hm⟩ | ⟨hno, _⟩ := hv)
    rotate_left
    · exact absurd (fix_ok x) hno
    have hM : MmOk m.abs := by rw [hm]; exact newM_ok (fix_ok x)
    have hS : Same0 (newM (fixM x)) m.abs := by rw [hm]; exact Same0.refl _
    (repeat (first | (refine i_dst ?_; (first | (refine i_move ?_; refine l_q rfl rfl rfl (q_move rfl) ?_) | (refine i_assign ?_; refine l_q rfl rfl rfl (q_assign rfl) ?_) | (refine i_bin ?_; refine l_q rfl rfl rfl (by (first | exact q_neq rfl rfl | exact q_eqnil tab rfl rfl rfl)) ?_) | refine l_q rfl rfl rfl (by (first | exact q_extract rfl rfl | exact q_pick_f rfl rfl)) ?_)) | refine d_seq ?_ | refine c_region ?_ | refine l_nil ?_ | (refine i_q ?_; (refine d_then ?_)) | refine c_skip ?_ | (refine i_guard ?_; (refine l_gt rfl rfl rfl ?_)) | (refine i_cond ?_; (refine c_cf rfl (by (rfl)) ?_))))
    (refine l_call0 rfl rfl Try.func16 rfl (by decide) (fun w' h => few_spec A n c w' hnc hcm) (fun v B hv => ?_); obtain ⟨rfl, rfl⟩ := hv)
    (repeat (first | (refine i_dst ?_; (first | (refine i_move ?_; refine l_q rfl rfl rfl (q_move rfl) ?_) | (refine i_blt ?_; refine l_q rfl rfl rfl (by (exact q_len tab rfl rfl)) ?_))) | refine l_nil ?_ | refine c_block ?_ | (refine i_q ?_; (refine d_then ?_))))
    refine d_loop (T := Nat × MemV) [5, 6, 11, 67, 68] (fun t => [(69, .int .i64 t.1)]) [blk b6 [.int .i64 (goodM x).ram, .slice A1 (goodM x).segs.length c1, .slice A2 (goodM x).segs.length c2] 25, row 37 1 (.slice A2 (goodM x).segs.length c2) (goodM x).segs.length vals, starL (List.zipWith bytesA vals ((List.range (goodM x).segs.length).map (fixF (goodM x)))), row 53 2 (.slice A1 (goodM x).segs.length c1) (goodM x).segs.length (segCells (goodM x).segs)]
      (fun t => [memA p t.2]) (fun t => t.1 ≤ min n 60 ∧ MmOk t.2.abs ∧ Same0 (newM (fixM x)) t.2.abs) (fun t => min n 60 - t.1) (0, m) (by first | ((repeat (first | exact Pick.nil | exact rfl | apply Pick.cons)); done) | fail) ⟨Nat.zero_le _, hM, hS⟩ (by first | ((repeat (first | exact trivial | exact rfl | apply Sub.cons | exact look_int rfl (by omega) | exact look_int rfl (by simp) | exact look_int rfl (by simp; omega))); done) | fail) (fun w h => h) ?_
    clear hm hM hS m
    rintro ⟨k, m⟩ ⟨hk, hkm, hks⟩
    dsimp only at hk hkm hks ⊢
    by_cases hlt : k < min n 60
    · obtain ⟨a, hak⟩ : ∃ a, acts[k]? = some a := ⟨_, List.getElem?_eq_getElem (by rw [ha.len]; omega)⟩
      obtain ⟨bA, oA, r, rfl, hrl, hra, hcell⟩ := ha.get (by omega) hak
      obtain ⟨Aa, ka, ca, rfl, _⟩ := hra.is
      (repeat (first | (refine i_dst ?_; (first | (refine i_move ?_; refine l_q rfl rfl rfl (q_move rfl) ?_) | (refine i_load ?_; refine l_q rfl rfl rfl (by (first | (exact q_ldN tab rfl rfl rfl rfl (by first | ((repeat (first | exact List.Mem.head _ | apply List.Mem.tail)); done) | fail) (by first | ((repeat (first | exact TakeR.nil | apply TakeR.cons | apply CutR.zero | apply CutR.skip)); done) | fail)) | exact q_ldcN tab rfl rfl rfl rfl (by assumption) rfl)) ?_) | (refine i_bin ?_; refine l_q rfl rfl rfl (by (exact q_lss rfl rfl)) ?_) | (refine i_ix ?_; refine l_q rfl rfl rfl (by (exact q_indexAddr tab rfl rfl rfl rfl (by omega))) ?_) | (refine i_alloc ?_; (refine l_allocA tab rfl rfl (fun _ => ?_))))) | refine d_seq ?_ | refine c_region ?_ | refine l_nil ?_ | refine c_block ?_ | (refine i_q ?_; (refine d_then ?_)) | refine c_skip ?_ | (refine i_store ?_; ((refine l_setN tab rfl rfl rfl rfl (List.cons_ne_nil _ _) rfl (by first | ((repeat (first | exact Upd.head | apply Upd.tail)); done) | fail) (by first | ((repeat (first | exact LSets.nil | exact LSet.zero | apply LSets.cons | apply LSet.succ)); done) | fail) ?_))) | (refine i_cond ?_; (refine c_ct rfl (by (exact decide_eq_true (by omega))) ?_))))
      (refine l_call1 (X := memA p m) (by first | ((repeat (first | exact Ext.head | apply Ext.tail)); done) | fail) rfl rfl Try.func17 rfl (by decide) (fun w' h => does_spec h.split hkm _ a (hra.to (fun r hr => h.roOf hr (fun X hX => by simp at hX; simp [hX])))) (fun v B hv => ?_); obtain ⟨m', A', c', rfl, rfl, hm'⟩ := hv)
      (repeat (first | (refine i_dst ?_; (first | (refine i_move ?_; refine l_q rfl rfl rfl (q_move rfl) ?_) | (refine i_bin ?_; refine l_q rfl rfl rfl (by (exact q_add rfl rfl (by (exact wr_i64 (by omega))))) ?_))) | refine c_region ?_ | refine l_nil ?_ | (refine i_q ?_; (first | refine d_then ?_ | refine t_then ?_ | refine t_block ?_))))
      refine k_again (k + 1, m') ⟨by dsimp only; omega, by rw [hm']; exact doesM_ok hkm, by rw [hm']; exact hks.trans same0_does⟩ (by dsimp only; omega) (by first | ((repeat (first | exact trivial | exact rfl | apply Sub.cons | exact look_int rfl (by omega) | exact look_int rfl (by simp) | exact look_int rfl (by simp; omega))); done) | fail) (fun w h => h.pick [0, 3, 4, 5, 6] rfl)
    · (repeat (first | (refine i_dst ?_; (first | (refine i_move ?_; refine l_q rfl rfl rfl (q_move rfl) ?_) | (refine i_load ?_; refine l_q rfl rfl rfl (by ((exact q_ld1 tab rfl rfl rfl (by first | ((repeat (first | exact List.Mem.head _ | apply List.Mem.tail)); done) | fail) (by (rfl))))) ?_) | (refine i_bin ?_; refine l_q rfl rfl rfl (by (exact q_lss rfl rfl)) ?_) | (refine i_blt ?_; refine l_q rfl rfl rfl (by (exact q_len tab rfl rfl)) ?_) | (refine l_q rfl rfl rfl (by ((apply iq_fld; (exact q_fieldAddr tab rfl rfl rfl rfl rfl rfl rfl)))) ?_))) | refine d_seq ?_ | refine c_region ?_ | refine l_nil ?_ | refine c_block ?_ | (refine i_q ?_; (first | refine d_then ?_ | refine d_then_exit ?_ | refine t_then_exit ?_ | refine t_block_eq rfl ?_)) | refine c_exit ?_ | (refine i_cond ?_; (refine c_cf rfl (by (exact decide_eq_false (by omega))) ?_))))
      refine d_loop (T := Nat × MemV) [5, 6, 11, 78, 79] (fun t => [(80, .int .i64 t.1)]) [blk b6 [.int .i64 (goodM x).ram, .slice A1 (goodM x).segs.length c1, .slice A2 (goodM x).segs.length c2] 25, row 37 1 (.slice A2 (goodM x).segs.length c2) (goodM x).segs.length vals, starL (List.zipWith bytesA vals ((List.range (goodM x).segs.length).map (fixF (goodM x)))), row 53 2 (.slice A1 (goodM x).segs.length c1) (goodM x).segs.length (segCells (goodM x).segs)]
        (fun t => [memA p t.2]) (fun t => t.1 ≤ (goodM x).segs.length ∧ MmOk t.2.abs ∧ Same0 (newM (fixM x)) t.2.abs) (fun t => (goodM x).segs.length - t.1) (0, m) (by first | ((repeat (first | exact Pick.nil | exact rfl | apply Pick.cons)); done) | fail) ⟨Nat.zero_le _, hkm, hks⟩ (by first | ((repeat (first | exact trivial | exact rfl | apply Sub.cons | exact look_int rfl (by omega) | exact look_int rfl (by simp) | exact look_int rfl (by simp; omega))); done) | fail) (fun w h => h) ?_
      clear hkm hks m hlt hk k
      rintro ⟨k, m⟩ ⟨hk, hkm, hks⟩
      dsimp only at hk hkm hks ⊢
      by_cases hlt : k < (goodM x).segs.length
      · obtain ⟨⟨s1, s2⟩, hsk⟩ : ∃ sg, (goodM x).segs[k]? = some sg := ⟨_, List.getElem?_eq_getElem hlt⟩
        have hg := good_seg hsk
        obtain ⟨ln, rfl⟩ : ∃ ln : Nat, s1 = ln := ⟨s1.toNat, by omega⟩
        dsimp only at hg
        have hfl : (fixF (goodM x) k).length = ln := by have := length_fixF hsk; simpa using this
        obtain ⟨q1, q2⟩ := fix_law hsk hks hkm
        (repeat (first | (refine i_dst ?_; (first | (refine i_move ?_; refine l_q rfl rfl rfl (q_move rfl) ?_) | (refine i_assign ?_; refine l_q rfl rfl rfl (q_assign rfl) ?_) | (refine i_load ?_; refine l_q rfl rfl rfl (by ((exact q_ldFN tab rfl rfl rfl rfl (by ((exact fun w h => row_src (h.mem (by first | ((repeat (first | exact List.Mem.head _ | apply List.Mem.tail)); done) | fail))))) (by exact fun _ => rfl) (by assumption) (by exact rfl) (by exact List.cons_ne_nil _ _)))) ?_) | (refine i_bin ?_; refine l_q rfl rfl rfl (by (exact q_lss rfl rfl)) ?_) | (refine i_ix ?_; refine l_q rfl rfl rfl (by ((exact q_ixSN tab rfl rfl rfl rfl (by ((exact fun w h => row_src (h.mem (by first | ((repeat (first | exact List.Mem.head _ | apply List.Mem.tail)); done) | fail))))) (by first | (with_reducible exact Int.toNat_natCast _) | (with_reducible exact Int.toNat_zero) | (with_reducible exact Int.toNat_one) | rfl) (by (omega)) (by (omega))))) ?_) | (refine i_alloc ?_; (refine l_allocA tab rfl rfl (fun _ => ?_))))) | refine d_seq ?_ | refine c_region ?_ | refine l_nil ?_ | refine c_block ?_ | (refine i_q ?_; (refine d_then ?_)) | refine c_skip ?_ | (refine i_store ?_; ((refine l_setN tab rfl rfl rfl rfl (List.cons_ne_nil _ _) rfl (by first | ((repeat (first | exact Upd.head | apply Upd.tail)); done) | fail) (by first | ((repeat (first | exact LSets.nil | exact LSet.zero | apply LSets.cons | apply LSet.succ)); done) | fail) ?_))) | (refine i_cond ?_; (refine c_ct rfl (by (exact decide_eq_true (by omega))) ?_))))
        (refine l_call1 (X := memA p m) (by first | ((repeat (first | exact Ext.head | apply Ext.tail)); done) | fail) rfl rfl Try.func25 rfl (by decide) (fun w' h => set_spec h.split hkm 1 k 0 (by omega)) (fun v B hv => ?_); obtain ⟨m1, rfl, hm1, rfl⟩ := hv)
        have hk1 : MmOk m1.abs := by rw [hm1]; exact setM_ok hkm
        have hs1 : Same0 (newM (fixM x)) m1.abs := by rw [hm1]; exact hks.trans same0_set
        rw [← hm1] at q2
        rw [q1]
        (repeat (first | (refine i_dst ?_; (first | (refine i_move ?_; refine l_q rfl rfl rfl (q_move rfl) ?_) | (refine i_assign ?_; refine l_q rfl rfl rfl (q_assign rfl) ?_) | (refine i_load ?_; refine l_q rfl rfl rfl (by ((exact q_ld1 tab rfl rfl rfl (by first | ((repeat (first | exact List.Mem.head _ | apply List.Mem.tail)); done) | fail) (by (rfl))))) ?_) | (refine i_bin ?_; refine l_q rfl rfl rfl (by (exact q_add rfl rfl (by (exact wr_i64 (by omega))))) ?_) | (refine l_q rfl rfl rfl (by (first | (apply iq_fld; (exact q_fieldAddr tab rfl rfl rfl rfl rfl rfl rfl)) | (apply iq_cv; (exact q_conv tab rfl rfl rfl (by (exact wr_u8 (by omega))))))) ?_))) | refine d_seq ?_ | refine c_region ?_ | refine l_nil ?_ | (refine i_q ?_; (refine d_then ?_))))
        (refine l_call0 rfl rfl Try.func26 rfl (by decide) (fun w' h => read_spec (m := m1) (roHp0 h (i := 0) rfl) hk1 1 (k + 1) 0 ln (by omega) (by omega) (by omega) (by omega) (by omega)) (fun v B hv => ?_); obtain ⟨A4, c4, rfl, rfl⟩ := hv)
        rw [q2]
        dsimp only
        rw [hfl]
        (repeat (first | (refine i_dst ?_; (first | (refine i_move ?_; refine l_q rfl rfl rfl (q_move rfl) ?_) | (refine i_assign ?_; refine l_q rfl rfl rfl (q_assign rfl) ?_) | refine l_q rfl rfl rfl (by (exact q_extract rfl rfl)) ?_)) | refine d_seq ?_ | refine l_nil ?_ | (refine i_q ?_; (refine d_then ?_))))
        refine c_fact (p := ∃ B c', vals[k]? = some (.slice B ln c')) (fun w h => ?_) ?_
        · obtain ⟨v, hv⟩ : ∃ v, vals[k]? = some v := ⟨_, List.getElem?_eq_getElem (by omega)⟩
          have h4 := starL_get (h.get (i := 5) rfl) (i := k) (X := bytesA v (fixF (goodM x) k)) (by simp [List.getElem?_zipWith, hv, hlt])
          obtain ⟨B, c', rfl, _⟩ := bytesA_ro h4
          rw [hfl] at hv
          exact ⟨B, c', hv⟩
        rintro ⟨B, c', hvk⟩
        refine c_src (r := fun w => (roB B ln (fixF (goodM x) k)).C w) (fun w h => ?_) (fun hsb => ?_)
        · have h4 := starL_get (h.get (i := 5) rfl) (i := k) (X := bytesA (.slice B ln c') (fixF (goodM x) k)) (by simp [List.getElem?_zipWith, hvk, hlt])
          exact roB_of h4
        (refine a_begin mixed _ 17 rfl (fun w h => h) ?_)
        ((refine a_q 0 rfl rfl rfl rfl rfl (by decide +kernel) (q_move rfl) ?_; refine a_q 1 rfl rfl rfl rfl rfl (by decide +kernel) (by (exact q_neq rfl rfl)) ?_; refine a_q 2 rfl rfl rfl rfl rfl (by decide +kernel) (q_move rfl) ?_; (refine a_gt 3 rfl rfl rfl rfl rfl rfl rfl (by decide +kernel) (q_move rfl) ?_); (refine a_gt 4 rfl rfl rfl rfl rfl rfl rfl (by decide +kernel) (by (exact q_neq rfl rfl)) ?_); refine a_q 5 rfl rfl rfl rfl rfl (by decide +kernel) (by (exact q_pick_f rfl rfl)) ?_; refine a_q 6 rfl rfl rfl rfl rfl (by decide +kernel) (q_move rfl) ?_; (refine a_gt 7 rfl rfl rfl rfl rfl rfl rfl (by decide +kernel) (q_move rfl) ?_); ((refine a_gt 8 rfl rfl rfl rfl rfl rfl rfl (by decide +kernel) (by ((apply iq_cv; ((exact q_str tab rfl rfl rfl rfl (fun w h => roB_of (h.mem (by first | ((repeat (first | exact List.Mem.head _ | apply List.Mem.tail)); done) | fail)))))))) ?_)); ((refine a_gt 9 rfl rfl rfl rfl rfl rfl rfl (by decide +kernel) (by ((apply iq_fld; (exact q_fieldAddr tab rfl rfl rfl rfl rfl rfl rfl)))) ?_)); ((refine a_gt 10 rfl rfl rfl rfl rfl rfl rfl (by decide +kernel) (by ((exact q_ld1 tab rfl rfl rfl (by first | ((repeat (first | exact List.Mem.head _ | apply List.Mem.tail)); done) | fail) (by (rfl))))) ?_)); (refine a_gt 11 rfl rfl rfl rfl rfl rfl rfl (by decide +kernel) (q_move rfl) ?_); ((refine a_gt 12 rfl rfl rfl rfl rfl rfl rfl (by decide +kernel) (by ((exact q_ixS1 tab rfl rfl rfl rfl (by ((exact fun w h => row_src (h.mem (by first | ((repeat (first | exact List.Mem.head _ | apply List.Mem.tail)); done) | fail))))) (by first | (with_reducible exact Int.toNat_natCast _) | (with_reducible exact Int.toNat_zero) | (with_reducible exact Int.toNat_one) | rfl) (by (omega)) (by (omega))))) ?_)); ((refine a_gt 13 rfl rfl rfl rfl rfl rfl rfl (by decide +kernel) (by ((exact q_ldS tab rfl rfl rfl (by ((exact fun w h => row_src (h.mem (by first | ((repeat (first | exact List.Mem.head _ | apply List.Mem.tail)); done) | fail))))) (by (assumption))))) ?_)); ((refine a_gt 14 rfl rfl rfl rfl rfl rfl rfl (by decide +kernel) (by ((apply iq_cv; (exact q_str tab rfl rfl rfl rfl (by assumption))))) ?_)); (refine a_gt 15 rfl rfl rfl rfl rfl rfl rfl (by decide +kernel) (by (exact q_nes rfl rfl)) ?_); refine a_q 16 rfl rfl rfl rfl rfl (by decide +kernel) (by (exact q_pick_f rfl rfl)) ?_))
        refine a_done (by decide +kernel) ?_
        (repeat (first | (refine i_dst ?_; (first | (refine i_move ?_; refine l_q rfl rfl rfl (q_move rfl) ?_) | (refine i_bin ?_; refine l_q rfl rfl rfl (by (exact q_add rfl rfl (by (exact wr_i64 (by omega))))) ?_))) | refine c_region ?_ | refine l_nil ?_ | (refine i_q ?_; (first | refine d_then ?_ | refine t_then ?_ | refine t_block ?_)) | refine c_skip ?_ | (refine i_cond ?_; ((refine c_cf rfl (by (((first | (simp; done) | fail)))) ?_)))))
        exact k_again (k + 1, m1) ⟨by dsimp only; omega, hk1, hs1⟩ (by dsimp only; omega) (by first | ((repeat (first | exact trivial | exact rfl | apply Sub.cons | exact look_int rfl (by omega) | exact look_int rfl (by simp) | exact look_int rfl (by simp; omega))); done) | fail) (fun w h => h.pick [1, 3, 4, 5, 6] rfl)
      · (repeat (first | (refine i_dst ?_; (first | (refine i_move ?_; refine l_q rfl rfl rfl (q_move rfl) ?_) | (refine i_assign ?_; refine l_q rfl rfl rfl (q_assign rfl) ?_) | (refine i_bin ?_; refine l_q rfl rfl rfl (by (exact q_lss rfl rfl)) ?_))) | refine d_seq ?_ | refine c_region ?_ | refine l_nil ?_ | (refine i_q ?_; (first | refine d_then ?_ | refine d_then_exit ?_ | refine t_then_exit ?_ | refine t_block_eq rfl ?_)) | refine c_exit ?_ | refine c_ret ?_ | (refine i_cond ?_; (refine c_cf rfl (by (exact decide_eq_false (by omega))) ?_))))
        exact t_ret1 Try.results4 rfl rfl
end Go.Proofs.Ytecnodkjjpjglaa

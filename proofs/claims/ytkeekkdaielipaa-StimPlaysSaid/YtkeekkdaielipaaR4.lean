/-
  The reference's memory: Write, walked.
-/
import Derived.Test.YtkeekkdaielipaaR3
set_option linter.unusedVariables false
set_option maxRecDepth 100000
namespace Go.Proofs.Ytkeekkdaielipaa
open Go.RowKit
attribute [local irreducible] TL TC TQ TK TO Qt TA


theorem ref_focus {q : Nat} {x : RefV} (hk : MmOk x.abs) {who area : Nat} {v : Value} {l : List Int} {f : Bool} (ha : areaV x.m who area = some (v, l, f)) :
    ∃ Cs : List Asn, (∀ S w0 w, St S w0 [refA q x] w → St S w0 (bytesA v l :: Cs) w) ∧ ∀ l', ∃ x', x'.abs = setArea x.abs who area l' ∧ ∀ S w0 w, St S w0 (bytesA v l' :: Cs) w → St S w0 [refA q x'] w := by
  unfold areaV at ha
  by_cases h0 : area = 0
  · rw [if_pos h0] at ha
    simp only [Option.some.injEq, Prod.mk.injEq] at ha
    obtain ⟨rfl, rfl, rfl⟩ := ha
    refine ⟨[starL ((refL q x).set 1 emp)], fun S w0 w hS => st_take (j := 0) (i := 1) hS rfl rfl, fun l' => ⟨⟨{ x.m with ram := l' }, x.ev⟩, ?_, fun S w0 w hS => ?_⟩⟩
    · rw [setArea, if_pos h0]
      rfl
    · exact st_back (l := refL q x) (i := 1) rfl hS
  · rw [if_neg h0] at ha
    cases hs : x.m.segs[area - 1]? with
    | none => rw [hs] at ha; cases ha
    | some s =>
      rw [hs] at ha
      dsimp only at ha
      obtain ⟨k, hkk⟩ : ∃ k : Nat, k = (if who = 1 then s.s.s0 else s.s.s1) := ⟨_, rfl⟩
      rw [← hkk] at ha
      cases hv : s.pgs[k]? with
      | none => rw [hv] at ha; cases ha
      | some v' =>
        cases hl : s.s.dat[k]? with
        | none => rw [hv, hl] at ha; cases ha
        | some y =>
          rw [hv, hl] at ha
          simp only [Option.some.injEq, Prod.mk.injEq] at ha
          obtain ⟨rfl, rfl, rfl⟩ := ha
          refine ⟨[starL ((List.zipWith bytesA s.pgs s.s.dat).set k emp), starL [row 23 1 s.pv s.pgs.length s.pgs, pureA (s.pgs.length = s.s.dat.length), emp], starL ((x.m.segs.map rsegA).set (area - 1) emp), starL ((refL q x).set 4 emp)], fun S w0 w hS => rpage_focus hs hv hl hS, fun l' => ⟨x.put (area - 1) (s.page k v' l'), ?_, fun S w0 w hS => ?_⟩⟩
          · rw [setArea, if_neg h0, rabs_seg hs, put_abs]
            simp only [← hkk, SegV.page]
          · exact rpage_unfocus hs hv hl (by rw [set_same hv]; exact hS)
theorem spl_nil (l : List Int) (o : Nat) : spl l o [] = l := by simp [spl]
theorem spl_step {l xs : List Int} {o i : Nat} {y : Int} (hy : xs[i]? = some y) (h : o + i < l.length) : (spl l o (xs.take i)).set (o + i) y = spl l o (xs.take (i + 1)) := by
  have hi := (List.getElem?_eq_some_iff.1 hy).1
  have e1 : (xs.take i).length = i := by rw [List.length_take]; omega
  have e2 : (xs.take (i + 1)).length = i + 1 := by rw [List.length_take]; omega
  simp only [spl, e1, e2]
  rw [List.set_append_right _ _ (by simp; omega)]
  have e3 : o + i - (l.take o ++ xs.take i).length = 0 := by simp; omega
  rw [e3, List.drop_eq_getElem_cons h, List.set_cons_zero, List.take_add_one, hy]
  simp [Nat.add_assoc]
attribute [local irreducible] blk row bytesA starL memA segA roB

attribute [local irreducible] refA rsegA sees

set_option maxHeartbeats 4000000 in
theorem rwrite_spec {q : Nat} {x : RefV} {w : World} (hA : Hold [refA q x] w) (hk : MmOk x.abs) (who area : Nat) (at_ : Int) (X : Option Addr) (k c : Nat) (xs : List Int) (hx : Ro (fps [refA q x]) w (roB X k xs)) (hkm : k ≤ 1000000) (hw : who ≤ 255) (ha : area ≤ 255) (ha0 : 0 ≤ at_) (ha1 : at_ ≤ 4294967295) :
    Calls Try.prog 41 #[.pointer (some ⟨q, 0, none⟩), .int .u8 who, .int .u8 area, .int .u32 at_, .slice X k c] w (Ret w [refA q x] (RWriteR q (writeM x.abs who area at_ xs))) := by
  refine enter (vs := [.pointer (some ⟨q, 0, none⟩), .int .u8 who, .int .u8 area, .int .u32 at_, .slice X k c]) Try.func41 rfl Try.ntmps41 rfl hA ?_
  have hh : (refA q x).C w := hA.all _ (by simp)
  have hmx : maxLen = 2 ^ 63 - 1 := rfl
  have hxl := roB_len hx.is
  have hxo := roB_oct hx.is
  by_cases h1 : who ≠ 1 ∧ who ≠ 2
  · have e1 : writeM x.abs who area at_ xs = (x.abs, 1) := by rw [writeM, if_pos h1]
    rw [e1]
    by_cases h2 : who < 1
    · (repeat (first | (refine i_dst ?_; (first | (refine i_move ?_; refine l_q rfl rfl rfl (q_move rfl) ?_) | (refine i_assign ?_; refine l_q rfl rfl rfl (q_assign rfl) ?_) | (refine i_bin ?_; refine l_q rfl rfl rfl (by (exact q_lss rfl rfl)) ?_) | refine l_q rfl rfl rfl (by (exact q_pick_t rfl rfl)) ?_)) | refine d_seq ?_ | refine c_region ?_ | refine l_nil ?_ | (refine i_q ?_; (first | refine d_then ?_ | refine d_then_ret ?_)) | refine c_ret ?_ | (refine i_guard ?_; (first | refine l_gf rfl rfl rfl rfl rfl rfl ?_ | (refine l_gfd rfl rfl rfl (by ((simp; omega))) rfl rfl ?_))) | (refine i_cond ?_; (refine c_ct rfl (by (rfl)) ?_))))
      exact t_ret1 Try.results41 rfl ⟨x, rfl, rfl, rfl⟩
    · (repeat (first | (refine i_dst ?_; (first | (refine i_move ?_; refine l_q rfl rfl rfl (q_move rfl) ?_) | (refine i_assign ?_; refine l_q rfl rfl rfl (q_assign rfl) ?_) | (refine i_bin ?_; refine l_q rfl rfl rfl (by (first | exact q_lss rfl rfl | exact q_gtr rfl rfl)) ?_) | refine l_q rfl rfl rfl (by (exact q_pick_f rfl rfl)) ?_)) | refine d_seq ?_ | refine c_region ?_ | refine l_nil ?_ | (refine i_q ?_; (first | refine d_then ?_ | refine d_then_ret ?_)) | refine c_ret ?_ | (refine i_guard ?_; (first | refine l_gt rfl rfl rfl ?_ | (refine l_gtd rfl rfl rfl (by ((simp; omega))) ?_))) | (refine i_cond ?_; (refine c_ct rfl (by (exact decide_eq_true (by omega))) ?_))))
      exact t_ret1 Try.results41 rfl ⟨x, rfl, rfl, rfl⟩
  · have hw12 : who = 1 ∨ who = 2 := by omega
    (repeat (first | (refine i_dst ?_; (first | (refine i_move ?_; refine l_q rfl rfl rfl (q_move rfl) ?_) | (refine i_assign ?_; refine l_q rfl rfl rfl (q_assign rfl) ?_) | (refine i_bin ?_; refine l_q rfl rfl rfl (by (first | exact q_lss rfl rfl | exact q_gtr rfl rfl)) ?_) | refine l_q rfl rfl rfl (by (exact q_pick_f rfl rfl)) ?_)) | refine d_seq ?_ | refine c_region ?_ | refine l_nil ?_ | (refine i_q ?_; (refine d_then ?_)) | refine c_skip ?_ | (refine i_guard ?_; (first | refine l_gt rfl rfl rfl ?_ | (refine l_gtd rfl rfl rfl (by ((simp; omega))) ?_))) | (refine i_cond ?_; (refine c_cf rfl (by (exact decide_eq_false (by omega))) ?_))))
    (refine l_call0 rfl rfl Try.func59 rfl (by decide) (fun w' h => rarea_spec (roHp0 h (i := 0) rfl) hk who area hw12 ha) (fun v B hv => ?_); obtain ⟨rfl, rfl⟩ := hv)
    rcases areaV_ref (who := who) (area := area) hh hk with ⟨v, l, f, h2, h3, h4, h9⟩ | ⟨h2, h3⟩
    · obtain ⟨A, d, rfl, hc, hcm, -⟩ := bytesA_ro h4.is
      rw [rAreaV, h2]
      dsimp only
      by_cases hb : (k : Int) > l.length ∨ at_ > l.length - (k : Int)
      · have e2 : writeM x.abs who area at_ xs = (x.abs, 80) := by rw [writeM, if_neg h1, h3]; exact if_pos (by rw [hxl]; exact hb)
        rw [e2]
        by_cases h6 : (k : Int) > l.length
        · (repeat (first | (refine i_dst ?_; (first | (refine i_move ?_; refine l_q rfl rfl rfl (q_move rfl) ?_) | (refine i_assign ?_; refine l_q rfl rfl rfl (q_assign rfl) ?_) | (refine i_bin ?_; refine l_q rfl rfl rfl (by (exact q_gtr rfl rfl)) ?_) | (refine i_blt ?_; refine l_q rfl rfl rfl (by (exact q_len tab rfl rfl)) ?_) | refine l_q rfl rfl rfl (by (first | exact q_extract rfl rfl | exact q_not rfl | exact q_pick_t rfl rfl | exact q_pick_f rfl rfl)) ?_)) | refine d_seq ?_ | refine c_region ?_ | refine l_nil ?_ | (refine i_q ?_; (first | refine d_then ?_ | refine d_then_ret ?_)) | refine c_ret ?_ | (refine i_guard ?_; (first | refine l_gt rfl rfl rfl ?_ | refine l_gf rfl rfl rfl rfl rfl rfl ?_ | (refine l_gfd rfl rfl rfl (by ((simp; omega))) rfl rfl ?_))) | (refine i_cond ?_; (refine c_ct rfl (by (rfl)) ?_))))
          exact t_ret1 Try.results41 rfl ⟨x, rfl, rfl, rfl⟩
        · (repeat (first | (refine i_dst ?_; (first | (refine i_move ?_; refine l_q rfl rfl rfl (q_move rfl) ?_) | (refine i_assign ?_; refine l_q rfl rfl rfl (q_assign rfl) ?_) | (refine i_bin ?_; refine l_q rfl rfl rfl (by (first | exact q_gtr rfl rfl | exact q_sub rfl rfl (by (exact wr_i64 (by omega))))) ?_) | (refine i_blt ?_; refine l_q rfl rfl rfl (by (exact q_len tab rfl rfl)) ?_) | (refine l_q rfl rfl rfl (by (first | exact q_extract rfl rfl | (apply iq_cv; (exact q_conv tab rfl rfl rfl (by (exact wr_i64 (by omega))))) | exact q_not rfl | exact q_pick_f rfl rfl)) ?_))) | refine d_seq ?_ | refine c_region ?_ | refine l_nil ?_ | (refine i_q ?_; (first | refine d_then ?_ | refine d_then_ret ?_)) | refine c_ret ?_ | (refine i_guard ?_; (first | refine l_gt rfl rfl rfl ?_ | (refine l_gtd rfl rfl rfl (by ((simp; omega))) ?_))) | (refine i_cond ?_; (refine c_ct rfl (by (exact decide_eq_true (by omega))) ?_))))
          exact t_ret1 Try.results41 rfl ⟨x, rfl, rfl, rfl⟩
      · by_cases hk0 : k = 0
        · have e2 : writeM x.abs who area at_ xs = (x.abs, 0) := by
            rw [writeM, if_neg h1, h3]
            dsimp only
            rw [if_neg (by rw [hxl]; exact hb), if_pos (by omega)]
          rw [e2]
          cases f
          all_goals
            (repeat (first | (refine i_dst ?_; (first | (refine i_move ?_; refine l_q rfl rfl rfl (q_move rfl) ?_) | (refine i_assign ?_; refine l_q rfl rfl rfl (q_assign rfl) ?_) | (refine i_bin ?_; refine l_q rfl rfl rfl (by (first | exact q_gtr rfl rfl | exact q_sub rfl rfl (by (exact wr_i64 (by omega))))) ?_) | (refine i_blt ?_; refine l_q rfl rfl rfl (by (exact q_len tab rfl rfl)) ?_) | (refine l_q rfl rfl rfl (by (first | exact q_extract rfl rfl | (apply iq_cv; (exact q_conv tab rfl rfl rfl (by (exact wr_i64 (by omega))))) | exact q_not rfl | exact q_pick_t rfl rfl | exact q_pick_f rfl rfl)) ?_))) | refine d_seq ?_ | refine c_region ?_ | refine l_nil ?_ | refine c_block ?_ | (refine i_q ?_; (refine d_then ?_)) | refine c_skip ?_ | (refine i_guard ?_; (first | refine l_gt rfl rfl rfl ?_ | refine l_gf rfl rfl rfl rfl rfl rfl ?_ | (refine l_gtd rfl rfl rfl (by ((simp; omega))) ?_))) | (refine i_cond ?_; (refine c_cf rfl (by (first | rfl | exact decide_eq_false (by omega))) ?_))))
            refine d_loop (T := Nat) [4] (fun i => [(14, .int .i64 i)]) [refA q x] (fun _ => []) (fun i => i = 0) (fun i => 0) 0 (by first | ((repeat (first | exact Pick.nil | exact rfl | apply Pick.cons)); done) | fail) rfl (by first | ((repeat (first | exact trivial | exact rfl | apply Sub.cons | exact look_int rfl (by omega) | exact look_int rfl (by simp) | exact look_int rfl (by simp; omega))); done) | fail) (fun w h => h) ?_
            rintro i rfl
            (repeat (first | (refine i_dst ?_; (first | (refine i_move ?_; refine l_q rfl rfl rfl (q_move rfl) ?_) | (refine i_assign ?_; refine l_q rfl rfl rfl (q_assign rfl) ?_) | (refine i_bin ?_; refine l_q rfl rfl rfl (by (exact q_lss rfl rfl)) ?_) | (refine i_blt ?_; refine l_q rfl rfl rfl (by (exact q_len tab rfl rfl)) ?_))) | refine d_seq ?_ | refine c_region ?_ | refine l_nil ?_ | (refine i_q ?_; (first | refine d_then ?_ | refine d_then_exit ?_ | refine t_then_exit ?_ | refine t_block_eq rfl ?_)) | refine c_exit ?_ | refine c_ret ?_ | (refine i_cond ?_; (refine c_cf rfl (by (exact decide_eq_false (by omega))) ?_))))
            exact t_ret1 Try.results41 rfl ⟨x, rfl, rfl, rfl⟩
        · cases f with
          | true =>
            have e2 : writeM x.abs who area at_ xs = (x.abs, 81) := by
              rw [writeM, if_neg h1, h3]
              dsimp only
              rw [if_neg (by rw [hxl]; exact hb), if_neg (by omega), if_pos rfl]
            rw [e2]
            (repeat (first | (refine i_dst ?_; (first | (refine i_move ?_; refine l_q rfl rfl rfl (q_move rfl) ?_) | (refine i_assign ?_; refine l_q rfl rfl rfl (q_assign rfl) ?_) | (refine i_bin ?_; refine l_q rfl rfl rfl (by (first | exact q_gtr rfl rfl | exact q_sub rfl rfl (by (exact wr_i64 (by omega))))) ?_) | (refine i_blt ?_; refine l_q rfl rfl rfl (by (exact q_len tab rfl rfl)) ?_) | (refine l_q rfl rfl rfl (by (first | exact q_extract rfl rfl | (apply iq_cv; (exact q_conv tab rfl rfl rfl (by (exact wr_i64 (by omega))))) | exact q_not rfl | exact q_pick_t rfl rfl | exact q_pick_f rfl rfl)) ?_))) | refine d_seq ?_ | refine c_region ?_ | refine l_nil ?_ | (refine i_q ?_; (first | refine d_then ?_ | refine d_then_ret ?_)) | refine c_skip ?_ | refine c_ret ?_ | (refine i_guard ?_; (first | refine l_gt rfl rfl rfl ?_ | (refine l_gtd rfl rfl rfl (by ((simp; omega))) ?_))) | (refine i_cond ?_; (first | refine c_ct rfl (by (exact decide_eq_true (by omega))) ?_ | refine c_cf rfl (by (exact decide_eq_false (by omega))) ?_))))
            exact t_ret1 Try.results41 rfl ⟨x, rfl, rfl, rfl⟩
          | false =>
            have e2 : writeM x.abs who area at_ xs = (setArea x.abs who area (spl l at_.toNat xs), 0) := by
              rw [writeM, if_neg h1, h3]
              dsimp only
              rw [if_neg (by rw [hxl]; exact hb), if_neg (by omega), if_neg (by simp)]
            rw [e2]
            obtain ⟨Cs, hf1, hf2⟩ := ref_focus (q := q) hk h2
            obtain ⟨x', hx1, hx2⟩ := hf2 (spl l at_.toNat xs)
            refine l_ex (p := fun y : Nat × List Value => A = some ⟨y.1, 0, none⟩ ∧ (bv l ++ y.2).length = d ∧ Oct l) (hp' := fun y => blk y.1 (bv l ++ y.2) 5 :: Cs) (fun w h => ?_) ?_
            · obtain ⟨y, ⟨y1, y2, y3, y4, y5, y6⟩, y7⟩ := bytesA_open (i := 0) (l := l) (hf1 _ _ w h) rfl (by omega)
              exact ⟨y, ⟨y1, y5, y6⟩, y7⟩
            rintro ⟨g, junk⟩ ⟨rfl, hy5, hy6⟩
            dsimp only at hy5 ⊢
            (repeat (first | (refine i_dst ?_; (first | (refine i_move ?_; refine l_q rfl rfl rfl (q_move rfl) ?_) | (refine i_assign ?_; refine l_q rfl rfl rfl (q_assign rfl) ?_) | (refine i_bin ?_; refine l_q rfl rfl rfl (by (first | exact q_gtr rfl rfl | exact q_sub rfl rfl (by (exact wr_i64 (by omega))))) ?_) | (refine i_blt ?_; refine l_q rfl rfl rfl (by (exact q_len tab rfl rfl)) ?_) | (refine l_q rfl rfl rfl (by (first | exact q_extract rfl rfl | (apply iq_cv; (exact q_conv tab rfl rfl rfl (by (exact wr_i64 (by omega))))) | exact q_not rfl | exact q_pick_f rfl rfl)) ?_))) | refine d_seq ?_ | refine c_region ?_ | refine l_nil ?_ | refine c_block ?_ | (refine i_q ?_; (refine d_then ?_)) | refine c_skip ?_ | (refine i_guard ?_; (first | refine l_gt rfl rfl rfl ?_ | refine l_gf rfl rfl rfl rfl rfl rfl ?_ | (refine l_gtd rfl rfl rfl (by ((simp; omega))) ?_))) | (refine i_cond ?_; (refine c_cf rfl (by (first | rfl | exact decide_eq_false (by omega))) ?_))))
            obtain ⟨at0, rfl⟩ : ∃ at0 : Nat, at_ = at0 := ⟨at_.toNat, by omega⟩
            refine d_loop (T := Nat) [3, 4, 11] (fun i => [(14, .int .i64 i)]) Cs (fun i => [blk g (bv (spl l at0 (xs.take i)) ++ junk) 5]) (fun i => i ≤ k) (fun i => k - i) 0 (by first | ((repeat (first | exact Pick.nil | exact rfl | apply Pick.cons)); done) | fail) (Nat.zero_le _) (by first | ((repeat (first | exact trivial | exact rfl | apply Sub.cons | exact look_int rfl (by omega) | exact look_int rfl (by simp) | exact look_int rfl (by simp; omega))); done) | fail) (fun w h => by rw [List.take_zero, spl_nil]; exact h) ?_
            intro i hi
            by_cases hlt : i < k
            · obtain ⟨y, hy⟩ : ∃ y, xs[i]? = some y := ⟨_, List.getElem?_eq_getElem (by omega)⟩
              have hyv : (bv xs)[i]? = some (.int .u8 y) := by simp [bv, hy]
              have hsl : (spl l at0 (xs.take i)).length = l.length := length_spl (by rw [List.length_take]; omega)
              have hlen : at0 + i < (bv (spl l at0 (xs.take i)) ++ junk).length := by rw [List.length_append, length_bv, hsl]; omega
              (repeat (first | (refine i_dst ?_; (first | (refine i_move ?_; refine l_q rfl rfl rfl (q_move rfl) ?_) | (refine i_assign ?_; refine l_q rfl rfl rfl (q_assign rfl) ?_) | (refine i_load ?_; refine l_q rfl rfl rfl (by (exact q_ldS tab rfl rfl rfl (by (exact fun w h => roB_src (h.ro (by assumption)))) (by (assumption)))) ?_) | (refine i_bin ?_; refine l_q rfl rfl rfl (by (first | exact q_lss rfl rfl | exact q_add rfl rfl (by (exact wr_i64 (by omega))))) ?_) | (refine i_blt ?_; refine l_q rfl rfl rfl (by (exact q_len tab rfl rfl)) ?_) | (refine i_ix ?_; refine l_q rfl rfl rfl (by (first | exact q_indexAddr1 tab rfl rfl rfl rfl (by omega) | exact q_ixS1 tab rfl rfl rfl rfl (by (exact fun w h => roB_src (h.ro (by assumption)))) (by first | (with_reducible exact Int.toNat_natCast _) | (with_reducible exact Int.toNat_zero) | (with_reducible exact Int.toNat_one) | rfl) (by (omega)) (by (omega)))) ?_) | (refine l_q rfl rfl rfl (by ((apply iq_cv; (exact q_conv tab rfl rfl rfl (by (exact wr_i64 (by omega))))))) ?_))) | refine d_seq ?_ | refine c_region ?_ | refine l_nil ?_ | refine c_block ?_ | (refine i_q ?_; (first | refine d_then ?_ | refine t_then ?_ | refine t_block ?_)) | refine c_skip ?_ | (refine i_store ?_; ((refine l_setI tab rfl rfl rfl rfl (by first | ((repeat (first | exact Upd.head | apply Upd.tail)); done) | fail) (by (omega)) ?_))) | (refine i_cond ?_; (refine c_ct rfl (by (exact decide_eq_true (by omega))) ?_))))
              refine k_again (i + 1) (by omega) (by omega) (by first | ((repeat (first | exact trivial | exact rfl | apply Sub.cons | exact look_int rfl (by omega) | exact look_int rfl (by simp) | exact look_int rfl (by simp; omega))); done) | fail) (fun w h => ?_)
              have e3 : (bv (spl l at0 (xs.take i)) ++ junk).set (0 + ((at0 : Int) + (i : Int)).toNat) (.int .u8 y) = bv (spl l at0 (xs.take (i + 1))) ++ junk := by
                rw [show 0 + ((at0 : Int) + (i : Int)).toNat = at0 + i by omega, List.set_append_left _ _ (by rw [length_bv, hsl]; omega), ← spl_step hy (by omega)]
                simp [bv, List.map_set]
              rw [e3] at h
              exact h
            · have hik : i = k := by omega
              subst hik
              (repeat (first | (refine i_dst ?_; (first | (refine i_move ?_; refine l_q rfl rfl rfl (q_move rfl) ?_) | (refine i_assign ?_; refine l_q rfl rfl rfl (q_assign rfl) ?_) | (refine i_bin ?_; refine l_q rfl rfl rfl (by (exact q_lss rfl rfl)) ?_) | (refine i_blt ?_; refine l_q rfl rfl rfl (by (exact q_len tab rfl rfl)) ?_))) | refine d_seq ?_ | refine c_region ?_ | refine l_nil ?_ | (refine i_q ?_; (first | refine d_then ?_ | refine d_then_exit ?_ | refine t_then_exit ?_ | refine t_block_eq rfl ?_)) | refine c_exit ?_ | refine c_ret ?_ | (refine i_cond ?_; ((refine c_cf rfl (by (((first | (simp; done) | fail)))) ?_)))))
              refine t_hp (hp' := [refA q x']) (fun w h => hx2 _ _ w ?_) (t_ret1 Try.results41 rfl ⟨x', rfl, hx1, rfl⟩)
              rw [List.take_of_length_le (by omega)] at h
              refine h.see (i := 0) rfl (fun h => ?_) (fun b hb => blk_S (bytesA_S hb))
              have hsl : (spl l at0 xs).length = l.length := length_spl (by omega)
              have := bytesA_shut (c := d) h (hy6.spl hxo) (by rw [List.length_append, length_bv, hsl]; rw [List.length_append, length_bv] at hy5; exact hy5) hcm
              rw [hsl] at this
              exact this
    · have e2 : writeM x.abs who area at_ xs = (x.abs, 80) := by rw [writeM, if_neg h1, h3]
      rw [rAreaV, h2, e2]
      dsimp only
      (repeat (first | (refine i_dst ?_; (first | (refine i_move ?_; refine l_q rfl rfl rfl (q_move rfl) ?_) | (refine i_assign ?_; refine l_q rfl rfl rfl (q_assign rfl) ?_) | refine l_q rfl rfl rfl (by (first | exact q_extract rfl rfl | exact q_not rfl | exact q_pick_t rfl rfl)) ?_)) | refine d_seq ?_ | refine c_region ?_ | refine l_nil ?_ | (refine i_q ?_; (first | refine d_then ?_ | refine d_then_ret ?_)) | refine c_ret ?_ | (refine i_guard ?_; (refine l_gf rfl rfl rfl rfl rfl rfl ?_)) | (refine i_cond ?_; (refine c_ct rfl (by (rfl)) ?_))))
      exact t_ret1 Try.results41 rfl ⟨x, rfl, rfl, rfl⟩
end Go.Proofs.Ytkeekkdaielipaa

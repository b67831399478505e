/-
  The reference's memory: New, walked.
-/
import Derived.Test.YtkeekkdaielipaaR6
set_option linter.unusedVariables false
set_option maxRecDepth 100000
namespace Go.Proofs.Ytkeekkdaielipaa
open Go.RowKit
attribute [local irreducible] TL TC TQ TK TO Qt TA

theorem rowBBB : RowT tab 94 30 1 24 (.slice none 0 0) := ⟨rfl, rfl, rfl, by decide⟩
theorem row2I : RowT tab 95 43 2 16 (.agg #[.int .i64 0, .int .i64 0]) := ⟨rfl, rfl, rfl, by decide⟩
theorem st_packs {S : Nat → Prop} {w0 w : World} {Xs F : List Asn} (h : St S w0 (Xs ++ F) w) : St S w0 (starL Xs :: F) w := by
  have h1 : St S w0 (Xs ++ starL [] :: F) w := (st_star0 h).perm List.perm_middle.symm
  have := st_pack h1
  rwa [List.append_nil] at this
theorem refA_mk {S : Nat → Prop} {w0 w : World} {q : Nat} {x : RefV} {F : List Asn} (h : St S w0 (blk q [x.m.rv, x.m.sv, x.ev] 97 :: bytesA x.m.rv x.m.ram :: row 30 1 x.m.sv x.m.segs.length (x.m.segs.map (·.pv)) :: row 43 2 x.ev x.m.segs.length (sees x.m.segs) :: starL (x.m.segs.map rsegA) :: F) w) : St S w0 (refA q x :: F) w := st_packs (Xs := refL q x) h
theorem rsegA_mk {S : Nat → Prop} {w0 w : World} {s : SegV} {F : List Asn} (h : St S w0 (row 23 1 s.pv s.pgs.length s.pgs :: pureA (s.pgs.length = s.s.dat.length) :: starL (List.zipWith bytesA s.pgs s.s.dat) :: F) w) : St S w0 (rsegA s :: F) w := st_packs (Xs := [row 23 1 s.pv s.pgs.length s.pgs, pureA (s.pgs.length = s.s.dat.length), starL (List.zipWith bytesA s.pgs s.s.dat)]) h
/-- What is put at the head of a page. -/
def headOf (x : MapI) (k j : Nat) : List Int := if j = 0 then flashOf x k else []
theorem fill_step {fl : List Int} {ln i : Nat} {y : Int} (hy : fl[i]? = some y) (hl : fl.length ≤ ln) : (bv (fl.take i ++ List.replicate (ln - i) 0)).set i (.int .u8 y) = bv (fl.take (i + 1) ++ List.replicate (ln - (i + 1)) 0) := by
  have hi := (List.getElem?_eq_some_iff.1 hy).1
  have e : (bv (fl.take i)).length = i := by rw [length_bv, List.length_take]; omega
  rw [bv_append, bv_append, List.set_append_right _ _ (by omega), e, Nat.sub_self, show ln - i = (ln - (i + 1)) + 1 by omega, List.replicate_succ, List.take_add_one, hy, bv_append, List.append_assoc]
  rfl
theorem segOf_dat {x : MapI} {k ln np j : Nat} (hj : j < np) : (segOf x k ((ln : Int), (np : Int))).dat[j]? = some (headOf x k j ++ List.replicate (ln - (headOf x k j).length) 0) := by
  cases j with
  | zero => simp [segOf, headOf]
  | succ j =>
    simp only [segOf, headOf, Int.toNat_natCast, List.getElem?_cons_succ, if_neg (Nat.succ_ne_zero j)]
    rw [List.getElem?_replicate, if_pos (by omega)]
    simp
theorem segOf_len {x : MapI} {k ln np : Nat} (h : 1 ≤ np) : (segOf x k ((ln : Int), (np : Int))).dat.length = np := by simp [segOf]; omega
def RNewR (x : MapI) (v : Value) (B : List Asn) : Prop :=
  (okMap x ∧ ∃ q y, v = .tuple #[.pointer (some ⟨q, 0, none⟩), .int .i64 0] ∧ B = [refA q y] ∧ y.abs = newM x) ∨ (¬ okMap x ∧ v = .tuple #[.pointer none, .int .i64 1] ∧ B = [])
theorem sees_nil : sees [] = [] := rfl
theorem newSegs_snoc {x : MapI} {k : Nat} {s : Int × Int} (h : x.segs[k]? = some s) : newSegs x (k + 1) = newSegs x k ++ [segOf x k s] := by simp [newSegs, List.range_succ, List.getD_eq_getElem?_getD, h]
theorem sees_snoc (l : List SegV) (s : SegV) : sees (l ++ [s]) = sees l ++ [.int .i64 s.s.s0, .int .i64 s.s.s1] := by simp [sees]
theorem zeros_bytes {g n : Nat} {fl : List Int} {w : World} (h : (blk g (bv (fl ++ List.replicate (n - fl.length) 0)) 5).C w) (ho : Oct fl) (hl : fl.length ≤ n) (hn : n ≤ maxLen) : (bytesA (.slice (some ⟨g, 0, none⟩) n n) (fl ++ List.replicate (n - fl.length) 0)).C w := by
  have e : (fl ++ List.replicate (n - fl.length) 0).length = n := by simp; omega
  have := bytesA_shut (c := n) (junk := []) (by simpa using h) (ho.append (Oct.zeros _)) (by simp; omega) hn
  rwa [e] at this
attribute [local irreducible] blk row bytesA starL memA segA roB

attribute [local irreducible] refA rsegA sees refL

set_option maxHeartbeats 8000000 in
theorem rnew_spec (v : Value) (x : MapI) (w : World) (hx : InMap (fps []) w v x) :
    Calls Try.prog 30 #[v] w (Ret w [] (RNewR x)) := by
  obtain ⟨A, c, A', n', c', rfl, hc1, hc2, hsg, hfl, hc3, hc4⟩ := hx.is
  refine enter (vs := [.agg #[.int .i64 x.ram, .slice A x.segs.length c, .slice A' n' c']]) Try.func30 rfl Try.ntmps30 rfl (Hold.nil w) ?_
  have hmx : maxLen = 2 ^ 63 - 1 := rfl
  obtain ⟨hfn, vs, hfv, hfe⟩ := hfl
  (repeat (first | (refine i_dst ?_; (first | (refine i_assign ?_; refine l_q rfl rfl rfl (q_assign rfl) ?_) | (refine i_load ?_; refine l_q rfl rfl rfl (by ((exact q_ldN tab rfl rfl rfl rfl (by first | ((repeat (first | exact List.Mem.head _ | apply List.Mem.tail)); done) | fail) (by first | ((repeat (first | exact TakeR.nil | apply TakeR.cons | apply CutR.zero | apply CutR.skip)); done) | fail)))) ?_) | (refine i_box ?_; (refine l_boxA rfl rfl (fun _ => ?_))))) | refine d_seq ?_ | refine c_region ?_ | refine l_nil ?_ | (refine i_q ?_; (refine d_then ?_))))
  rename_i b1
  (refine l_call0 rfl rfl Try.func55 rfl (by decide) (fun w' h => right_spec _ x w' (hx.to0 h)) (fun v B hv => ?_); obtain ⟨b, rfl, hb, rfl⟩ := hv)
  cases b with
  | false =>
    (repeat (first | (refine i_dst ?_; (first | (refine i_assign ?_; refine l_q rfl rfl rfl (q_assign rfl) ?_) | refine l_q rfl rfl rfl (by (exact q_not rfl)) ?_)) | refine d_seq ?_ | refine c_region ?_ | refine l_nil ?_ | (refine i_q ?_; (first | refine d_then ?_ | refine d_then_ret ?_)) | refine c_ret ?_ | (refine i_cond ?_; (refine c_ct rfl (by (rfl)) ?_))))
    exact t_hp (hp' := []) (fun w h => h.pick [] rfl) (t_ret2 Try.results30 rfl rfl (.inr ⟨(fun h => by have := hb.2 h; cases this), rfl, rfl⟩))
  | true =>
    have hok := hb.1 rfl
    obtain ⟨o1, o2, o3, o4, o5⟩ := hok
    obtain ⟨rn, hrn⟩ : ∃ rn : Nat, x.ram = rn := ⟨x.ram.toNat, by omega⟩
    rw [hrn] at o1 o2 ⊢
    (repeat (first | (refine i_dst ?_; (first | (refine i_assign ?_; refine l_q rfl rfl rfl (q_assign rfl) ?_) | (refine i_load ?_; refine l_q rfl rfl rfl (by ((exact q_ld1 tab rfl rfl rfl (by first | ((repeat (first | exact List.Mem.head _ | apply List.Mem.tail)); done) | fail) (by (rfl))))) ?_) | (refine i_box ?_; (refine l_boxA rfl rfl (fun _ => ?_))) | (refine i_mk ?_; refine l_make rfl rfl rfl (fun w => run_makeN tab rfl rfl rfl (by (omega)) (by (omega)) w) (fun _ => ?_)) | (refine l_q rfl rfl rfl (by (first | (apply iq_fld; (exact q_fieldAddr tab rfl rfl rfl rfl rfl rfl rfl)) | exact q_not rfl | (apply iq_bld; ((exact q_bld tab rfl rfl rfl (by first | ((repeat (first | exact FillR.nil | exact LSets.nil | exact LSet.zero | exact CellsOf.agg | exact rfl | exact CellsOf.one rfl | apply FillR.cons | apply LSets.cons | apply LSet.succ)); done) | fail) (fun w => by kernel_rfl)))))) ?_))) | refine d_seq ?_ | refine c_region ?_ | refine l_nil ?_ | refine c_block ?_ | (refine i_q ?_; (refine d_then ?_)) | refine c_skip ?_ | (refine i_cond ?_; (refine c_cf rfl (by (rfl)) ?_))))
    rename_i gr q
    refine d_loop (T := Value × Value × List SegV) [1, 4] (fun t => [(5, .int .i64 t.2.2.length)]) [blk b1 [.int .i64 rn, .slice A x.segs.length c, .slice A' n' c'] 32, bytesA (.slice (some ⟨gr, 0, none⟩) rn rn) (List.replicate rn 0)]
      (fun t => [blk q [.slice (some ⟨gr, 0, none⟩) rn rn, t.1, t.2.1] 97, row 30 1 t.1 t.2.2.length (t.2.2.map (·.pv)), row 43 2 t.2.1 t.2.2.length (sees t.2.2), starL (t.2.2.map rsegA)])
      (fun t => t.2.2.length ≤ x.segs.length ∧ t.2.2.map (·.s) = newSegs x t.2.2.length) (fun t => x.segs.length - t.2.2.length) (.slice none 0 0, .slice none 0 0, []) (by first | ((repeat (first | exact Pick.nil | exact rfl | apply Pick.cons)); done) | fail) ⟨Nat.zero_le _, rfl⟩ (by first | ((repeat (first | exact trivial | exact rfl | apply Sub.cons | exact look_int rfl (by omega) | exact look_int rfl (by simp) | exact look_int rfl (by simp; omega))); done) | fail) (fun w h => ?_) ?_
    · have h1 := h.see (i := 1) rfl (fun h => zerosA h (by omega)) (fun b hb => blk_S (bytesA_S hb))
      have h2 := st_nil (st_nil (st_star0 h1) 43 2) 30 1
      dsimp only
      rw [sees_nil]
      exact h2.pick [3, 0, 1, 2, 5, 4] rfl
    rintro ⟨sv, ev, segs⟩ ⟨hk1, hk2⟩
    dsimp only at hk1 hk2 ⊢
    by_cases hlt : segs.length < x.segs.length
    · obtain ⟨⟨s1, s2⟩, hsk⟩ : ∃ sg, x.segs[segs.length]? = some sg := ⟨_, List.getElem?_eq_getElem hlt⟩
      obtain ⟨p1, p2, p3, p4, p5⟩ := o5 _ _ hsk
      dsimp only at p1 p2 p3 p4 p5
      obtain ⟨ln, rfl⟩ : ∃ ln : Nat, s1 = ln := ⟨s1.toNat, by omega⟩
      obtain ⟨np, rfl⟩ : ∃ np : Nat, s2 = np := ⟨s2.toNat, by omega⟩
      (repeat (first | (refine i_dst ?_; (first | (refine i_move ?_; refine l_q rfl rfl rfl (q_move rfl) ?_) | (refine i_assign ?_; refine l_q rfl rfl rfl (q_assign rfl) ?_) | (refine i_load ?_; refine l_q rfl rfl rfl (by ((exact q_ld1 tab rfl rfl rfl (by first | ((repeat (first | exact List.Mem.head _ | apply List.Mem.tail)); done) | fail) (by (rfl))))) ?_) | (refine i_bin ?_; refine l_q rfl rfl rfl (by (exact q_lss rfl rfl)) ?_) | (refine i_blt ?_; refine l_q rfl rfl rfl (by (exact q_len tab rfl rfl)) ?_) | (refine l_q rfl rfl rfl (by ((apply iq_fld; (exact q_fieldAddr tab rfl rfl rfl rfl rfl rfl rfl)))) ?_))) | refine d_seq ?_ | refine c_region ?_ | refine l_nil ?_ | refine c_block ?_ | (refine i_q ?_; (refine d_then ?_)) | refine c_skip ?_ | (refine i_cond ?_; (refine c_ct rfl (by (exact decide_eq_true (by omega))) ?_))))
      refine d_loop (T := Value × List Value) [1, 4, 5] (fun t => [(6, t.1), (7, .int .i64 t.2.length)]) [blk q [.slice (some ⟨gr, 0, none⟩) rn rn, sv, ev] 97, row 30 1 sv segs.length (segs.map (·.pv)), row 43 2 ev segs.length (sees segs), starL (segs.map rsegA), blk b1 [.int .i64 rn, .slice A x.segs.length c, .slice A' n' c'] 32, bytesA (.slice (some ⟨gr, 0, none⟩) rn rn) (List.replicate rn 0)]
        (fun t => [row 23 1 t.1 t.2.length t.2, starL (List.zipWith bytesA t.2 ((segOf x segs.length ((ln : Int), (np : Int))).dat.take t.2.length))])
        (fun t => t.2.length ≤ np) (fun t => np - t.2.length) (.slice none 0 0, []) (by first | ((repeat (first | exact Pick.nil | exact rfl | apply Pick.cons)); done) | fail) (Nat.zero_le _) (by first | ((repeat (first | exact trivial | exact rfl | apply Sub.cons | exact look_int rfl (by omega) | exact look_int rfl (by simp) | exact look_int rfl (by simp; omega))); done) | fail) (fun w h => (st_nil (st_star0 h) 23 1).pick [0, 1, 2, 3, 4, 5, 6, 7] rfl) ?_
      rintro ⟨pv, pgs⟩ hj
      dsimp only at hj ⊢
      by_cases hjl : pgs.length < np
      · refine c_fact (p := ∃ A4 c4, pv = .slice A4 pgs.length c4) (fun w h => ?_) ?_
        · obtain ⟨A4, c4, e4, _⟩ := row_slice (h.get (i := 0) rfl)
          exact ⟨A4, c4, e4⟩
        rintro ⟨A4, c4, rfl⟩
        have hhl : (headOf x segs.length pgs.length).length ≤ ln := by
          unfold headOf
          split
          · omega
          · simp
        obtain ⟨hd, hhd⟩ : ∃ hd, hd = headOf x segs.length pgs.length := ⟨_, rfl⟩
        rw [← hhd] at hhl
        have hho : Oct hd := by
          rw [hhd]
          unfold headOf flashOf
          split
          · cases hq : x.flash[segs.length]? with
            | none => simp [List.getD_eq_getElem?_getD, hq]; exact Oct.nil
            | some fl =>
              obtain ⟨_, _, _, _, _, _, hr⟩ := hfe _ fl hq
              simp [List.getD_eq_getElem?_getD, hq]
              exact roB_oct hr.is
          · exact Oct.nil
        have hsl : (segOf x segs.length ((ln : Int), (np : Int))).dat.length = np := segOf_len (by omega)
        (repeat (first | (refine i_dst ?_; (first | (refine i_move ?_; refine l_q rfl rfl rfl (q_move rfl) ?_) | (refine i_assign ?_; refine l_q rfl rfl rfl (q_assign rfl) ?_) | (refine i_load ?_; refine l_q rfl rfl rfl (by (first | (exact q_ld1 tab rfl rfl rfl (by first | ((repeat (first | exact List.Mem.head _ | apply List.Mem.tail)); done) | fail) (by (rfl))) | exact q_ldF tab rfl rfl rfl (by (exact fun w h => roV_src (h.ro (by assumption)))) (by exact fun _ => rfl) (by assumption) (by exact rfl))) ?_) | (refine i_bin ?_; refine l_q rfl rfl rfl (by (exact q_lss rfl rfl)) ?_) | (refine i_ix ?_; refine l_q rfl rfl rfl (by (exact q_ixSN tab rfl rfl rfl rfl (by (exact fun w h => roV_src (h.ro (by assumption)))) (by first | (with_reducible exact Int.toNat_natCast _) | (with_reducible exact Int.toNat_zero) | (with_reducible exact Int.toNat_one) | rfl) (by (omega)) (by (omega)))) ?_) | (refine i_mk ?_; refine l_make rfl rfl rfl (fun w => run_makeN tab rfl rfl rfl (by (omega)) (by (omega)) w) (fun _ => ?_)) | (refine l_q rfl rfl rfl (by ((apply iq_fld; (first | exact q_fieldAddr tab rfl rfl rfl rfl rfl rfl rfl | exact q_fldS tab rfl rfl rfl rfl rfl rfl rfl (by (exact fun w h => roV_src (h.ro (by assumption)))) (by (omega)))))) ?_))) | refine d_seq ?_ | refine c_region ?_ | refine l_nil ?_ | refine c_block ?_ | (refine i_q ?_; (refine d_then ?_)) | refine c_skip ?_ | (refine i_cond ?_; (refine c_ct rfl (by (exact decide_eq_true (by omega))) ?_))))
        rename_i g8
        refine d_loop (T := Nat) [1, 4, 5, 6, 7, 8] (fun i => [(9, .int .i64 i)]) [row 23 1 (.slice A4 pgs.length c4) pgs.length pgs, starL (List.zipWith bytesA pgs ((segOf x segs.length ((ln : Int), (np : Int))).dat.take pgs.length)), blk q [.slice (some ⟨gr, 0, none⟩) rn rn, sv, ev] 97, row 30 1 sv segs.length (segs.map (·.pv)), row 43 2 ev segs.length (sees segs), starL (segs.map rsegA), blk b1 [.int .i64 rn, .slice A x.segs.length c, .slice A' n' c'] 32, bytesA (.slice (some ⟨gr, 0, none⟩) rn rn) (List.replicate rn 0)] (fun i => [blk g8 (bv (hd.take i ++ List.replicate (ln - i) 0)) 5]) (fun i => i ≤ hd.length) (fun i => hd.length - i) 0 (by first | ((repeat (first | exact Pick.nil | exact rfl | apply Pick.cons)); done) | fail) (Nat.zero_le _) (by first | ((repeat (first | exact trivial | exact rfl | apply Sub.cons | exact look_int rfl (by omega) | exact look_int rfl (by simp) | exact look_int rfl (by simp; omega))); done) | fail) (fun w h => ?_) ?_
        · have e : bv (hd.take 0 ++ List.replicate (ln - 0) 0) = List.replicate ln (Value.int .u8 0) := by simp [bv]
          rw [e]
          exact h
        intro i hi
        by_cases hil : i < hd.length
        · have hp0 : pgs.length = 0 := by
            rcases Nat.eq_zero_or_pos pgs.length with h | h
            · exact h
            · rw [hhd, headOf, if_neg (by omega)] at hil
              simp at hil
          have hdf : hd = flashOf x segs.length := by rw [hhd, headOf, if_pos hp0]
          obtain ⟨fl, hfk⟩ : ∃ fl, x.flash[segs.length]? = some fl := by
            cases hq : x.flash[segs.length]? with
            | none => rw [hdf, flashOf, List.getD_eq_getElem?_getD, hq] at hil; simp at hil
            | some fl => exact ⟨fl, rfl⟩
          have hfd : hd = fl := by rw [hdf, flashOf, List.getD_eq_getElem?_getD, hfk]; rfl
          obtain ⟨B, kf, cf, hvk, hkc, hcm, hrb⟩ := hfe _ fl hfk
          have hfl' := roB_len hrb.is
          have hkn' : segs.length < n' := by have := (List.getElem?_eq_some_iff.1 hfk).1; omega
          obtain ⟨y, hy⟩ : ∃ y, fl[i]? = some y := ⟨_, List.getElem?_eq_getElem (by rw [← hfd]; exact hil)⟩
          have hyv : (bv fl)[i]? = some (.int .u8 y) := by simp [bv, hy]
          have hlen : i < (bv (hd.take i ++ List.replicate (ln - i) 0)).length := by rw [length_bv, List.length_append, List.length_take, List.length_replicate]; omega
          have hfl2 : hd.length = fl.length := by rw [hfd]
          (repeat (first | (refine i_dst ?_; (first | (refine i_move ?_; refine l_q rfl rfl rfl (q_move rfl) ?_) | (refine i_assign ?_; refine l_q rfl rfl rfl (q_assign rfl) ?_) | (refine i_load ?_; refine l_q rfl rfl rfl (by (first | (exact q_ld1 tab rfl rfl rfl (by first | ((repeat (first | exact List.Mem.head _ | apply List.Mem.tail)); done) | fail) (by (rfl))) | exact q_ldS tab rfl rfl rfl (by (first | exact fun w h => roV_src (h.ro (by assumption)) | exact fun w h => roB_src (h.ro (by assumption)))) (by (assumption)))) ?_) | (refine i_bin ?_; refine l_q rfl rfl rfl (by (first | exact q_lss rfl rfl | exact q_eql rfl rfl | exact q_add rfl rfl (by (exact wr_i64 (by omega))))) ?_) | (refine i_blt ?_; refine l_q rfl rfl rfl (by (exact q_len tab rfl rfl)) ?_) | (refine i_ix ?_; refine l_q rfl rfl rfl (by (first | exact q_indexAddr1 tab rfl rfl rfl rfl (by omega) | exact q_ixS1 tab rfl rfl rfl rfl (by (first | exact fun w h => roV_src (h.ro (by assumption)) | exact fun w h => roB_src (h.ro (by assumption)))) (by first | (with_reducible exact Int.toNat_natCast _) | (with_reducible exact Int.toNat_zero) | (with_reducible exact Int.toNat_one) | rfl) (by (omega)) (by (omega)))) ?_) | (refine l_q rfl rfl rfl (by (first | (apply iq_fld; (exact q_fieldAddr tab rfl rfl rfl rfl rfl rfl rfl)) | exact q_pick_t rfl rfl)) ?_))) | refine d_seq ?_ | refine c_region ?_ | refine l_nil ?_ | refine c_block ?_ | (refine i_q ?_; (first | refine d_then ?_ | refine t_then ?_ | refine t_block ?_)) | refine c_skip ?_ | (refine i_guard ?_; (first | refine l_gt rfl rfl rfl ?_ | refine l_gtd rfl rfl rfl (by (exact decide_eq_true (by omega))) ?_)) | (refine i_store ?_; ((refine l_setI tab rfl rfl rfl rfl (by first | ((repeat (first | exact Upd.head | apply Upd.tail)); done) | fail) (by (omega)) ?_))) | (refine i_cond ?_; (refine c_ct rfl (by (exact decide_eq_true (by omega))) ?_))))
          refine k_again (i + 1) (by omega) (by omega) (by first | ((repeat (first | exact trivial | exact rfl | apply Sub.cons | exact look_int rfl (by omega) | exact look_int rfl (by simp) | exact look_int rfl (by simp; omega))); done) | fail) (fun w h => ?_)
          rw [Int.toNat_natCast, Nat.zero_add, fill_step (by rw [hfd]; exact hy) hhl] at h
          exact h
        · have hih : i = hd.length := by omega
          subst hih
          by_cases hp0 : pgs.length = 0
          · have hdf : hd = flashOf x segs.length := by rw [hhd, headOf, if_pos hp0]
            by_cases hkn' : segs.length < n'
            · obtain ⟨fl, hfk⟩ : ∃ fl, x.flash[segs.length]? = some fl := ⟨_, List.getElem?_eq_getElem (by omega)⟩
              have hfd : hd = fl := by rw [hdf, flashOf, List.getD_eq_getElem?_getD, hfk]; rfl
              obtain ⟨B, kf, cf, hvk, hkc, hcm, hrb⟩ := hfe _ fl hfk
              have hfl' : hd.length = kf := by rw [hfd]; exact roB_len hrb.is
              (repeat (first | (refine i_dst ?_; (first | (refine i_move ?_; refine l_q rfl rfl rfl (q_move rfl) ?_) | (refine i_load ?_; refine l_q rfl rfl rfl (by (first | (exact q_ld1 tab rfl rfl rfl (by first | ((repeat (first | exact List.Mem.head _ | apply List.Mem.tail)); done) | fail) (by (rfl))) | exact q_ldS tab rfl rfl rfl (by (exact fun w h => roV_src (h.ro (by assumption)))) (by (assumption)))) ?_) | (refine i_bin ?_; refine l_q rfl rfl rfl (by (first | exact q_lss rfl rfl | exact q_eql rfl rfl)) ?_) | (refine i_blt ?_; refine l_q rfl rfl rfl (by (exact q_len tab rfl rfl)) ?_) | (refine i_ix ?_; refine l_q rfl rfl rfl (by (exact q_ixS1 tab rfl rfl rfl rfl (by (exact fun w h => roV_src (h.ro (by assumption)))) (by first | (with_reducible exact Int.toNat_natCast _) | (with_reducible exact Int.toNat_zero) | (with_reducible exact Int.toNat_one) | rfl) (by (omega)) (by (omega)))) ?_) | (refine i_bldS ?_; refine l_bldS tab rfl rfl rfl rfl (by first | exact CellsOf.agg | exact CellsOf.one rfl) (by first | ((repeat (first | exact RepR.zero | exact AppR.nil | apply RepR.succ | apply AppR.cons)); done) | fail) (by first | ((repeat (first | exact FillR.nil | exact LSets.nil | exact LSet.zero | exact CellsOf.agg | exact rfl | exact CellsOf.one rfl | apply FillR.cons | apply LSets.cons | apply LSet.succ)); done) | fail) (fun w => by kernel_rfl) (fun _ => ?_)) | (refine l_q rfl rfl rfl (by (first | (apply iq_fld; (exact q_fieldAddr tab rfl rfl rfl rfl rfl rfl rfl)) | exact q_pick_t rfl rfl)) ?_))) | refine d_seq ?_ | refine c_region ?_ | refine l_nil ?_ | (refine i_q ?_; (first | refine d_then ?_ | refine d_then_exit ?_ | refine t_then_exit ?_ | refine t_block_eq rfl ?_)) | refine c_exit ?_ | (refine i_guard ?_; (first | refine l_gt rfl rfl rfl ?_ | refine l_gtd rfl rfl rfl (by (exact decide_eq_true (by omega))) ?_)) | (refine i_cond ?_; (refine c_cf rfl (by (exact decide_eq_false (by omega))) ?_))))
              (refine l_app tab rfl rfl rfl rowBB (by first | ((repeat (first | exact Ext.head | apply Ext.tail)); done) | fail) (news := [.slice (some ⟨g8, 0, none⟩) ln ln]) (fun w h => SrcAt.blk (h.mem (by first | ((repeat (first | exact List.Mem.head _ | apply List.Mem.tail)); done) | fail)) rfl) (by simp [Value.oneCell']) (by omega) (by omega) (fun A6 c6 hA1 hA2 => ?_))
              (repeat (first | (refine i_dst ?_; (first | (refine i_move ?_; refine l_q rfl rfl rfl (q_move rfl) ?_) | (refine i_assign ?_; refine l_q rfl rfl rfl (q_assign rfl) ?_) | (refine i_bin ?_; refine l_q rfl rfl rfl (by (exact q_add rfl rfl (by (exact wr_i64 (by omega))))) ?_))) | refine c_region ?_ | refine l_nil ?_ | (refine i_q ?_; (first | refine d_then ?_ | refine t_then ?_ | refine t_block ?_))))
              refine k_again (.slice A6 (pgs.length + 1) c6, pgs ++ [.slice (some ⟨g8, 0, none⟩) ln ln]) (by simp; omega) (by simp; omega) (by first | ((repeat (first | exact trivial | exact rfl | apply Sub.cons | exact look_int rfl (by omega) | exact look_int rfl (by simp) | exact look_int rfl (by simp; omega))); done) | fail) (fun w h => ?_)
              rw [List.take_length] at h
              have h1 := h.see (i := 2) (Y := bytesA (.slice (some ⟨g8, 0, none⟩) ln ln) (hd ++ List.replicate (ln - hd.length) 0)) rfl (fun h => zeros_bytes h hho hhl (by omega)) (fun b hb => blk_S (bytesA_S hb))
              have h2 := st_starS (by rw [List.length_take, hsl]; omega) (h1.pick [2, 3, 0, 4, 5, 6, 7, 8, 9] rfl)
              dsimp only
              rw [List.length_append, List.length_singleton, List.take_add_one, segOf_dat hjl, ← hhd]
              exact h2.pick [1, 0, 2, 3, 4, 5, 6, 7] rfl
            · (repeat (first | (refine i_dst ?_; (first | (refine i_move ?_; refine l_q rfl rfl rfl (q_move rfl) ?_) | (refine i_load ?_; refine l_q rfl rfl rfl (by ((exact q_ld1 tab rfl rfl rfl (by first | ((repeat (first | exact List.Mem.head _ | apply List.Mem.tail)); done) | fail) (by (rfl))))) ?_) | (refine i_bin ?_; refine l_q rfl rfl rfl (by (first | exact q_lss rfl rfl | exact q_eql rfl rfl)) ?_) | (refine i_blt ?_; refine l_q rfl rfl rfl (by (exact q_len tab rfl rfl)) ?_) | (refine i_bldS ?_; refine l_bldS tab rfl rfl rfl rfl (by first | exact CellsOf.agg | exact CellsOf.one rfl) (by first | ((repeat (first | exact RepR.zero | exact AppR.nil | apply RepR.succ | apply AppR.cons)); done) | fail) (by first | ((repeat (first | exact FillR.nil | exact LSets.nil | exact LSet.zero | exact CellsOf.agg | exact rfl | exact CellsOf.one rfl | apply FillR.cons | apply LSets.cons | apply LSet.succ)); done) | fail) (fun w => by kernel_rfl) (fun _ => ?_)) | (refine l_q rfl rfl rfl (by (first | (apply iq_fld; (exact q_fieldAddr tab rfl rfl rfl rfl rfl rfl rfl)) | exact q_pick_t rfl rfl | exact q_pick_f rfl rfl)) ?_))) | refine d_seq ?_ | refine c_region ?_ | refine l_nil ?_ | (refine i_q ?_; (first | refine d_then ?_ | refine d_then_exit ?_ | refine t_then_exit ?_ | refine t_block_eq rfl ?_)) | refine c_exit ?_ | (refine i_guard ?_; (first | refine l_gt rfl rfl rfl ?_ | refine l_gf rfl rfl rfl rfl rfl rfl ?_ | refine l_gtd rfl rfl rfl (by (exact decide_eq_true (by omega))) ?_ | refine l_gfd rfl rfl rfl (by (exact decide_eq_false (by omega))) rfl rfl ?_)) | (refine i_cond ?_; (refine c_cf rfl (by (rfl)) ?_))))
              (refine l_app tab rfl rfl rfl rowBB (by first | ((repeat (first | exact Ext.head | apply Ext.tail)); done) | fail) (news := [.slice (some ⟨g8, 0, none⟩) ln ln]) (fun w h => SrcAt.blk (h.mem (by first | ((repeat (first | exact List.Mem.head _ | apply List.Mem.tail)); done) | fail)) rfl) (by simp [Value.oneCell']) (by omega) (by omega) (fun A6 c6 hA1 hA2 => ?_))
              (repeat (first | (refine i_dst ?_; (first | (refine i_move ?_; refine l_q rfl rfl rfl (q_move rfl) ?_) | (refine i_assign ?_; refine l_q rfl rfl rfl (q_assign rfl) ?_) | (refine i_bin ?_; refine l_q rfl rfl rfl (by (exact q_add rfl rfl (by (exact wr_i64 (by omega))))) ?_))) | refine c_region ?_ | refine l_nil ?_ | (refine i_q ?_; (first | refine d_then ?_ | refine t_then ?_ | refine t_block ?_))))
              refine k_again (.slice A6 (pgs.length + 1) c6, pgs ++ [.slice (some ⟨g8, 0, none⟩) ln ln]) (by simp; omega) (by simp; omega) (by first | ((repeat (first | exact trivial | exact rfl | apply Sub.cons | exact look_int rfl (by omega) | exact look_int rfl (by simp) | exact look_int rfl (by simp; omega))); done) | fail) (fun w h => ?_)
              rw [List.take_length] at h
              have h1 := h.see (i := 2) (Y := bytesA (.slice (some ⟨g8, 0, none⟩) ln ln) (hd ++ List.replicate (ln - hd.length) 0)) rfl (fun h => zeros_bytes h hho hhl (by omega)) (fun b hb => blk_S (bytesA_S hb))
              have h2 := st_starS (by rw [List.length_take, hsl]; omega) (h1.pick [2, 3, 0, 4, 5, 6, 7, 8, 9] rfl)
              dsimp only
              rw [List.length_append, List.length_singleton, List.take_add_one, segOf_dat hjl, ← hhd]
              exact h2.pick [1, 0, 2, 3, 4, 5, 6, 7] rfl
          · (repeat (first | (refine i_dst ?_; (first | (refine i_move ?_; refine l_q rfl rfl rfl (q_move rfl) ?_) | (refine i_bin ?_; refine l_q rfl rfl rfl (by (exact q_eql rfl rfl)) ?_) | (refine i_bldS ?_; refine l_bldS tab rfl rfl rfl rfl (by first | exact CellsOf.agg | exact CellsOf.one rfl) (by first | ((repeat (first | exact RepR.zero | exact AppR.nil | apply RepR.succ | apply AppR.cons)); done) | fail) (by first | ((repeat (first | exact FillR.nil | exact LSets.nil | exact LSet.zero | exact CellsOf.agg | exact rfl | exact CellsOf.one rfl | apply FillR.cons | apply LSets.cons | apply LSet.succ)); done) | fail) (fun w => by kernel_rfl) (fun _ => ?_)) | refine l_q rfl rfl rfl (by (exact q_pick_f rfl rfl)) ?_)) | refine d_seq ?_ | refine c_region ?_ | refine l_nil ?_ | (refine i_q ?_; (first | refine d_then ?_ | refine d_then_exit ?_ | refine t_then_exit ?_ | refine t_block_eq rfl ?_)) | refine c_exit ?_ | (refine i_guard ?_; (first | refine l_gf rfl rfl rfl rfl rfl rfl ?_ | refine l_gfd rfl rfl rfl (by (exact decide_eq_false (by omega))) rfl rfl ?_)) | (refine i_cond ?_; (refine c_cf rfl (by (rfl)) ?_))))
            (refine l_app tab rfl rfl rfl rowBB (by first | ((repeat (first | exact Ext.head | apply Ext.tail)); done) | fail) (news := [.slice (some ⟨g8, 0, none⟩) ln ln]) (fun w h => SrcAt.blk (h.mem (by first | ((repeat (first | exact List.Mem.head _ | apply List.Mem.tail)); done) | fail)) rfl) (by simp [Value.oneCell']) (by omega) (by omega) (fun A6 c6 hA1 hA2 => ?_))
            (repeat (first | (refine i_dst ?_; (first | (refine i_move ?_; refine l_q rfl rfl rfl (q_move rfl) ?_) | (refine i_assign ?_; refine l_q rfl rfl rfl (q_assign rfl) ?_) | (refine i_bin ?_; refine l_q rfl rfl rfl (by (exact q_add rfl rfl (by (exact wr_i64 (by omega))))) ?_))) | refine c_region ?_ | refine l_nil ?_ | (refine i_q ?_; (first | refine d_then ?_ | refine t_then ?_ | refine t_block ?_))))
            refine k_again (.slice A6 (pgs.length + 1) c6, pgs ++ [.slice (some ⟨g8, 0, none⟩) ln ln]) (by simp; omega) (by simp; omega) (by first | ((repeat (first | exact trivial | exact rfl | apply Sub.cons | exact look_int rfl (by omega) | exact look_int rfl (by simp) | exact look_int rfl (by simp; omega))); done) | fail) (fun w h => ?_)
            rw [List.take_length] at h
            have h1 := h.see (i := 2) (Y := bytesA (.slice (some ⟨g8, 0, none⟩) ln ln) (hd ++ List.replicate (ln - hd.length) 0)) rfl (fun h => zeros_bytes h hho hhl (by omega)) (fun b hb => blk_S (bytesA_S hb))
            have h2 := st_starS (by rw [List.length_take, hsl]; omega) (h1.pick [2, 3, 0, 4, 5, 6, 7, 8, 9] rfl)
            dsimp only
            rw [List.length_append, List.length_singleton, List.take_add_one, segOf_dat hjl, ← hhd]
            exact h2.pick [1, 0, 2, 3, 4, 5, 6, 7] rfl
      · have hjn : pgs.length = np := by omega
        have hsl : (segOf x segs.length ((ln : Int), (np : Int))).dat.length = np := segOf_len (by omega)
        refine c_fact (p := ∃ A4 c4 A5 c5 A6 c6, pv = .slice A4 pgs.length c4 ∧ sv = .slice A5 segs.length c5 ∧ ev = .slice A6 segs.length c6) (fun w h => ?_) ?_
        · obtain ⟨A4, c4, e4, _⟩ := row_slice (h.get (i := 0) rfl)
          obtain ⟨A5, c5, e5, _⟩ := row_slice (h.get (i := 3) rfl)
          obtain ⟨A6, c6, e6, _⟩ := row_slice (h.get (i := 4) rfl)
          exact ⟨A4, c4, A5, c5, A6, c6, e4, e5, e6⟩
        rintro ⟨A4, c4, A5, c5, A6, c6, rfl, rfl, rfl⟩
        (repeat (first | (refine i_dst ?_; (first | (refine i_move ?_; refine l_q rfl rfl rfl (q_move rfl) ?_) | (refine i_load ?_; refine l_q rfl rfl rfl (by (first | (exact q_ld1 tab rfl rfl rfl (by first | ((repeat (first | exact List.Mem.head _ | apply List.Mem.tail)); done) | fail) (by (rfl))) | exact q_ldF tab rfl rfl rfl (by (exact fun w h => roV_src (h.ro (by assumption)))) (by exact fun _ => rfl) (by assumption) (by exact rfl))) ?_) | (refine i_bin ?_; refine l_q rfl rfl rfl (by (exact q_lss rfl rfl)) ?_) | (refine i_ix ?_; refine l_q rfl rfl rfl (by (exact q_ixSN tab rfl rfl rfl rfl (by (exact fun w h => roV_src (h.ro (by assumption)))) (by first | (with_reducible exact Int.toNat_natCast _) | (with_reducible exact Int.toNat_zero) | (with_reducible exact Int.toNat_one) | rfl) (by (omega)) (by (omega)))) ?_) | (refine i_bldS ?_; refine l_bldS tab rfl rfl rfl rfl (by first | exact CellsOf.agg | exact CellsOf.one rfl) (by first | ((repeat (first | exact RepR.zero | exact AppR.nil | apply RepR.succ | apply AppR.cons)); done) | fail) (by first | ((repeat (first | exact FillR.nil | exact LSets.nil | exact LSet.zero | exact CellsOf.agg | exact rfl | exact CellsOf.one rfl | apply FillR.cons | apply LSets.cons | apply LSet.succ)); done) | fail) (fun w => by kernel_rfl) (fun _ => ?_)) | (refine l_q rfl rfl rfl (by (first | (apply iq_fld; (first | exact q_fieldAddr tab rfl rfl rfl rfl rfl rfl rfl | exact q_fldS tab rfl rfl rfl rfl rfl rfl rfl (by (exact fun w h => roV_src (h.ro (by assumption)))) (by (omega)))) | (apply iq_nck; (exact q_nilck rfl)))) ?_))) | refine d_seq ?_ | refine c_region ?_ | refine l_nil ?_ | (refine i_q ?_; (first | refine d_then ?_ | refine d_then_exit ?_ | refine t_then_exit ?_ | refine t_block_eq rfl ?_)) | refine c_exit ?_ | (refine i_cond ?_; (refine c_cf rfl (by (exact decide_eq_false (by omega))) ?_))))
        (refine l_app tab rfl rfl rfl rowBBB (by first | ((repeat (first | exact Ext.head | apply Ext.tail)); done) | fail) (news := [.slice A4 pgs.length c4]) (fun w h => SrcAt.blk (h.mem (by first | ((repeat (first | exact List.Mem.head _ | apply List.Mem.tail)); done) | fail)) rfl) (by simp [Value.oneCell']) (by omega) (by omega) (fun A7 c7 hA1 hA2 => ?_))
        (repeat (first | (refine i_dst ?_; (first | (refine i_move ?_; refine l_q rfl rfl rfl (q_move rfl) ?_) | (refine i_load ?_; refine l_q rfl rfl rfl (by ((exact q_ld1 tab rfl rfl rfl (by first | ((repeat (first | exact List.Mem.head _ | apply List.Mem.tail)); done) | fail) (by (rfl))))) ?_) | (refine i_bldS ?_; refine l_bldS tab rfl rfl rfl rfl (by first | exact CellsOf.agg | exact CellsOf.one rfl) (by first | ((repeat (first | exact RepR.zero | exact AppR.nil | apply RepR.succ | apply AppR.cons)); done) | fail) (by first | ((repeat (first | exact FillR.nil | exact LSets.nil | exact LSet.zero | exact CellsOf.agg | exact rfl | exact CellsOf.one rfl | apply FillR.cons | apply LSets.cons | apply LSet.succ)); done) | fail) (fun w => by kernel_rfl) (fun _ => ?_)) | (refine l_q rfl rfl rfl (by (first | (apply iq_fld; (exact q_fieldAddr tab rfl rfl rfl rfl rfl rfl rfl)) | (apply iq_nck; (exact q_nilck rfl)) | (apply iq_bld; ((exact q_bldA tab rfl rfl rfl rfl (by first | ((repeat (first | exact FillR.nil | exact LSets.nil | exact LSet.zero | exact CellsOf.agg | exact rfl | exact CellsOf.one rfl | apply FillR.cons | apply LSets.cons | apply LSet.succ)); done) | fail) (fun w => by kernel_rfl)))))) ?_))) | refine c_region ?_ | refine l_nil ?_ | (refine i_q ?_; (refine d_then ?_)) | (refine i_store ?_; ((refine l_set tab rfl rfl rfl rfl (by first | ((repeat (first | exact Upd.head | apply Upd.tail)); done) | fail) (by first | ((repeat (first | exact LSet.zero | apply LSet.succ)); done) | fail) ?_)))))
        (refine l_app tab rfl rfl rfl row2I (by first | ((repeat (first | exact Ext.head | apply Ext.tail)); done) | fail) (news := [.int .i64 0, .int .i64 0]) (fun w h => SrcAt.blk (h.mem (by first | ((repeat (first | exact List.Mem.head _ | apply List.Mem.tail)); done) | fail)) rfl) (by simp [Value.oneCell']) (by omega) (by omega) (fun A8 c8 hA1 hA2 => ?_))
        (repeat (first | (refine i_dst ?_; (first | (refine i_move ?_; refine l_q rfl rfl rfl (q_move rfl) ?_) | (refine i_assign ?_; refine l_q rfl rfl rfl (q_assign rfl) ?_) | (refine i_bin ?_; refine l_q rfl rfl rfl (by (exact q_add rfl rfl (by (exact wr_i64 (by omega))))) ?_) | (refine l_q rfl rfl rfl (by (first | (apply iq_fld; (exact q_fieldAddr tab rfl rfl rfl rfl rfl rfl rfl)) | (apply iq_nck; (exact q_nilck rfl)))) ?_))) | refine c_region ?_ | refine l_nil ?_ | (refine i_q ?_; (first | refine d_then ?_ | refine t_then ?_ | refine t_block ?_)) | (refine i_store ?_; ((refine l_set tab rfl rfl rfl rfl (by first | ((repeat (first | exact Upd.head | apply Upd.tail)); done) | fail) (by first | ((repeat (first | exact LSet.zero | apply LSet.succ)); done) | fail) ?_)))))
        refine k_again (.slice A7 (segs.length + 1) c7, .slice A8 (segs.length + 1) c8, segs ++ [⟨0, .slice A4 pgs.length c4, pgs, segOf x segs.length ((ln : Int), (np : Int))⟩]) ⟨by simp; omega, ?_⟩ (by simp; omega) (by first | ((repeat (first | exact trivial | exact rfl | apply Sub.cons | exact look_int rfl (by omega) | exact look_int rfl (by simp) | exact look_int rfl (by simp; omega))); done) | fail) (fun w h => ?_)
        · dsimp only
          rw [List.map_append, hk2, List.length_append, List.length_singleton, newSegs_snoc hsk]
          rfl
        rw [List.take_of_length_le (by omega)] at h
        have h1 := rsegA_mk (s := ⟨0, .slice A4 pgs.length c4, pgs, segOf x segs.length ((ln : Int), (np : Int))⟩) ((st_pure (p := pgs.length = (segOf x segs.length ((ln : Int), (np : Int))).dat.length) (by omega) (h.pick [4, 5, 7, 6, 2, 0, 8, 9] rfl)).pick [1, 0, 2, 3, 4, 5, 6, 7, 8] rfl)
        have h2 := st_snoc h1
        dsimp only
        rw [List.length_append, List.length_singleton, List.map_append, List.map_append, sees_snoc]
        exact h2.pick [1, 2, 3, 0, 4, 5] rfl
    · have hkn : segs.length = x.segs.length := by omega
      (repeat (first | (refine i_dst ?_; (first | (refine i_move ?_; refine l_q rfl rfl rfl (q_move rfl) ?_) | (refine i_assign ?_; refine l_q rfl rfl rfl (q_assign rfl) ?_) | (refine i_load ?_; refine l_q rfl rfl rfl (by ((exact q_ld1 tab rfl rfl rfl (by first | ((repeat (first | exact List.Mem.head _ | apply List.Mem.tail)); done) | fail) (by (rfl))))) ?_) | (refine i_bin ?_; refine l_q rfl rfl rfl (by (exact q_lss rfl rfl)) ?_) | (refine i_blt ?_; refine l_q rfl rfl rfl (by (exact q_len tab rfl rfl)) ?_) | (refine l_q rfl rfl rfl (by ((apply iq_fld; (exact q_fieldAddr tab rfl rfl rfl rfl rfl rfl rfl)))) ?_))) | refine d_seq ?_ | refine c_region ?_ | refine l_nil ?_ | (refine i_q ?_; (first | refine d_then ?_ | refine d_then_exit ?_ | refine t_then_exit ?_ | refine t_block_eq rfl ?_)) | refine c_exit ?_ | refine c_ret ?_ | (refine i_cond ?_; (refine c_cf rfl (by (exact decide_eq_false (by omega))) ?_))))
      refine t_hp (hp' := [refA q ⟨⟨.slice (some ⟨gr, 0, none⟩) rn rn, List.replicate rn 0, sv, segs⟩, ev⟩]) (fun w h => refA_mk (h.pick [0, 5, 1, 2, 3] rfl)) (t_ret2 Try.results30 rfl rfl (.inl ⟨⟨by omega, by omega, o3, o4, o5⟩, q, _, rfl, rfl, ?_⟩))
      simp only [RefV.abs, MemV.abs, newM]
      rw [hk2, hkn, hrn, Int.toNat_natCast]
end Go.Proofs.Ytkeekkdaielipaa

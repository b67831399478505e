/-
  Layer 11: write, walked.
-/
import Derived.Test.YtboccjdncdaakaaK16


set_option linter.unusedVariables false
set_option maxRecDepth 100000
namespace Go.Proofs.Ytboccjdncdaakaa
open Go.RowKit
attribute [local irreducible] TL TC TQ TK TO Qt TA
section
variable {S : Nat → Prop} {w0 w : World} {F : List Asn}
theorem ent_focus {vs : List Value} {ts : List (List EntryI)} {k : Nat} {v : Value} {t : List EntryI} (hv : vs[k]? = some v) (ht : ts[k]? = some t) (h : St S w0 (starL (List.zipWith entA vs ts) :: F) w) : St S w0 (row 44 3 v t.length (t.flatMap enC) :: starL ((List.zipWith entA vs ts).set k emp) :: F) w :=
  st_take (j := 0) (i := k) h rfl (by simp [List.getElem?_zipWith, hv, ht]; rfl)
theorem ent_unfocus {vs : List Value} {ts : List (List EntryI)} {k : Nat} {v : Value} {t t' : List EntryI} (hv : vs[k]? = some v) (ht : ts[k]? = some t) (h : St S w0 (row 44 3 v t'.length (t'.flatMap enC) :: starL ((List.zipWith entA vs ts).set k emp) :: F) w) : St S w0 (starL (List.zipWith entA vs (ts.set k t')) :: F) w := by
  have hk := (List.getElem?_eq_some_iff.1 hv).1
  have hk2 := (List.getElem?_eq_some_iff.1 ht).1
  have e : List.zipWith entA vs (ts.set k t') = (List.zipWith entA vs ts).set k (entA v t') := by
    refine List.ext_getElem? fun j => ?_
    by_cases hj : k = j
    · subst hj
      rw [List.getElem?_zipWith, hv, List.getElem?_set_self hk2, List.getElem?_set_self (by rw [List.length_zipWith]; omega)]
    · rw [List.getElem?_zipWith, List.getElem?_set_ne hj, List.getElem?_set_ne hj, List.getElem?_zipWith]
  rw [e]
  exact st_back (X := entA v t) (by simp [List.getElem?_zipWith, hv, ht]) h
end
theorem ent_cell {t : List EntryI} {e j : Nat} {x y : EntryI} {v : Value} {junk : List Value} (hx : t[e]? = some x) (hj : j < 3) (hy : (enC x).set j v = enC y) : (t.flatMap enC ++ junk).set (e * 3 + j) v = (t.set e y).flatMap enC ++ junk := by
  have hi := (List.getElem?_eq_some_iff.1 hx).1
  rw [List.set_append_left _ _ (by rw [length_flat len_enC]; omega), flat_set len_enC hx hj hy]
theorem ent_setAt {t : List EntryI} {e : Nat} {x : EntryI} {junk : List Value} (hx : t[e]? = some x) (a b c : Nat) : setAt (t.flatMap enC ++ junk) (e * 3) [.int .u8 a, .int .u8 b, .int .u32 c] = (t.set e ⟨a, b, c⟩).flatMap enC ++ junk := by
  have hi := (List.getElem?_eq_some_iff.1 hx).1
  show (((t.flatMap enC ++ junk).set (e * 3 + 0) (.int .u8 a)).set (e * 3 + 1) (.int .u8 b)).set (e * 3 + 2) (.int .u32 c) = _
  rw [ent_cell hx (y := ⟨a, x.area, x.at_⟩) (by omega) rfl, ent_cell (x := ⟨a, x.area, x.at_⟩) (y := ⟨a, b, x.at_⟩) (List.getElem?_set_self hi) (by omega) rfl, ent_cell (x := ⟨a, b, x.at_⟩) (y := ⟨a, b, c⟩) (List.getElem?_set_self (by rw [List.length_set]; exact hi)) (by omega) rfl, List.set_set, List.set_set]
theorem needs_set {t : List EntryI} {e : Nat} {x y : EntryI} (hx : t[e]? = some x) : needsM (t.set e y) + x.size = needsM t + y.size := by
  induction t generalizing e with
  | nil => simp at hx
  | cons z r ih =>
    cases e with
    | zero =>
      simp at hx
      subst hx
      simp [needsM]
      omega
    | succ e =>
      have := ih (e := e) (by simpa using hx)
      simp [needsM] at this ⊢
      omega
def wrX (x : LstV) (k e : Nat) (t : List EntryI) (y : EntryI) : LstV := ⟨⟨x.l.first, x.l.tabs.set k (t.set e y), x.l.stim, x.l.ev, x.l.pre, x.l.pri, x.l.on, x.l.ch⟩, x.tv, x.tvs⟩
theorem wrX_ok {d : DqV} (hok : DqOk d) {i k e c : Nat} {x : LstV} {A : Option Addr} {t : List EntryI} {en y : EntryI} {pv : Option (Nat × Nat × Nat × Nat)} (hx : d.xs[i]? = some x) (ht : x.l.tabs[k]? = some t) (he : t[e]? = some en) (hy : y.size ≤ 255 ∧ y.area ≤ 255 ∧ y.at_ ≤ 4294967295) (h7 : needsM t + y.size ≤ 7 + en.size) (hp : ∀ z, pv = some z → z.2.1 = i ∧ z.2.2.1 = k ∧ z.2.2.2 < t.length) : DqOk ⟨d.step, A, c, d.xs.set i (wrX x k e t y), pv⟩ := by
  have hxo := hok.lists x (List.mem_of_getElem? hx)
  have hi := (List.getElem?_eq_some_iff.1 hx).1
  have hk := (List.getElem?_eq_some_iff.1 ht).1
  obtain ⟨q1, q2, q3⟩ := hxo.tab t (List.mem_of_getElem? ht)
  refine dqok_set hok hx ⟨hxo.first, hxo.ev, hxo.pre, hxo.pri, ?_, fun t' h => ?_⟩ ?_ hok.step (fun h => h) (fun z hz => ?_)
  · show (x.l.tabs.set _ _).length ≤ 16
    rw [List.length_set]
    exact hxo.tabs
  · rcases List.mem_or_eq_of_mem_set h with h | rfl
    · exact hxo.tab t' h
    · refine ⟨fun z hz => ?_, by rw [List.length_set]; exact q2, by have := needs_set (y := y) he; omega⟩
      rcases List.mem_or_eq_of_mem_set hz with hz | rfl
      · exact q1 z hz
      · exact hy
  · show _ + (x.l.tabs.set _ _).length ≤ _
    rw [List.length_set]
    have := hok.tot
    omega
  · obtain ⟨h1, h2, h3⟩ := hp z hz
    exact ⟨wrX x k e t y, t.set e y, by rw [h1]; exact List.getElem?_set_self hi, by rw [h2]; exact List.getElem?_set_self hk, by rw [List.length_set]; exact h3⟩
theorem wrX_st {S : Nat → Prop} {w0 w : World} {p i k e c ge ce : Nat} {A : Option Addr} {x : LstV} {xs : List LstV} {t : List EntryI} {en y : EntryI} {junk : List Value} {st : Nat} {pv : Option (Nat × Nat × Nat × Nat)} (hx : xs[i]? = some x) (hxl : x.tvs.length = x.l.tabs.length) (hv : x.tvs[k]? = some (.slice (some ⟨ge, 0, none⟩) t.length ce)) (ht : x.l.tabs[k]? = some t) (he : t[e]? = some en) (hc : t.length ≤ ce) (hm : ce ≤ maxLen) (hl : (t.flatMap enC ++ junk).length = ce * 3)
    (h : St S w0 [blk ge ((t.set e y).flatMap enC ++ junk) 44, starL ((List.zipWith entA x.tvs x.l.tabs).set k emp), row 37 1 x.tv x.tvs.length x.tvs, starL ((xs.map tblA).set i emp), blk p [.int .i64 4, .int .i64 st, .slice A xs.length c, ptV pv] 98, row 27 8 (.slice A xs.length c) xs.length (xs.flatMap lstCells), ptA pv] w) : St S w0 (dqL p ⟨st, A, c, xs.set i (wrX x k e t y), pv⟩) w := by
  have hi := (List.getElem?_eq_some_iff.1 hx).1
  have hlt : (t.set e y).length = t.length := List.length_set ..
  have h1 := row_shut (n := t.length) (c := ce) hc hm (by rw [length_flat len_enC, hlt]) (by rw [List.length_append, length_flat len_enC, hlt]; rw [List.length_append, length_flat len_enC] at hl; exact hl) h
  have h2 := ent_unfocus hv ht (t' := t.set e y) (by rw [hlt]; exact h1)
  have h3 := h2.perm (.swap _ _ _)
  have h4 := tbl_unfocus (x := wrX x k e t y) hi (by rw [show (wrX x k e t y).tvs.length = x.tvs.length from rfl, hxl]; exact (List.length_set ..).symm) h3
  have h5 := h4.psub (hp' := [blk p [.int .i64 4, .int .i64 st, .slice A xs.length c, ptV pv] 98, row 27 8 (.slice A xs.length c) xs.length (xs.flatMap lstCells), starL ((xs.set i (wrX x k e t y)).map tblA), ptA pv]) (by first | ((repeat (first | exact PSub.nil | exact Ext.head | apply Ext.tail | apply PSub.cons)); done) | fail)
  unfold dqL
  dsimp only
  rw [List.length_set, flat_same hx (by rfl)]
  exact h5
attribute [local irreducible] blk row bytesA starL memA segA roB otA entA tblA
set_option maxHeartbeats 16000000 in
theorem dwrite_spec {p : Nat} {d : DqV} {w : World} (hA : Hold (dqL p d) w) (hok : DqOk d) (hoff : Off d) (c : CmdV) (hc : c.code = 23) (hcok : c.Ok) :
    Calls Try.prog 48 #[.pointer (some ⟨p, 0, none⟩), .agg (cmdC c).toArray] w (Ret w (dqL p d) (DoOut p c d)) := by
  have hmx : maxLen = 2 ^ 63 - 1 := rfl
  have hok0 := hok
  obtain ⟨hlen, hst, htot, hlists, hfree, hptr⟩ := hok
  have ha0 := hcok.a0
  have ha1 := hcok.a1
  have hw := hcok.w
  refine enter (vs := [.pointer (some ⟨p, 0, none⟩), .agg (cmdC c).toArray]) Try.func48 rfl Try.ntmps48 rfl hA ?_
  refine c_fact (p := DqSh d) (fun w h => dq_sh (F := []) h) ?_
  rintro ⟨⟨hc1, hc2⟩, hgA, htv⟩
  cases hpv : d.pv with
  | none =>
    refine c_hp (hp' := [blk p [.int .i64 4, .int .i64 d.step, .slice d.A d.xs.length d.c, .pointer none] 98]) (fun w h => by
      have h1 := h.subl (hp' := [blk p [.int .i64 4, .int .i64 d.step, .slice d.A d.xs.length d.c, ptV d.pv] 98]) (.keep .nil)
      rw [hpv] at h1
      exact h1) ?_
    simp only [cmdC]
    (repeat (first | (refine i_dst ?_; (first | (refine i_move ?_; refine l_q rfl rfl rfl (q_move rfl) ?_) | (refine i_assign ?_; refine l_q rfl rfl rfl (q_assign rfl) ?_) | (refine i_load ?_; refine l_q rfl rfl rfl (by ((exact q_ld1 tab rfl rfl rfl (by first | ((repeat (first | exact List.Mem.head _ | apply List.Mem.tail)); done) | fail) (by (rfl))))) ?_) | (refine i_bin ?_; refine l_q rfl rfl rfl (by (exact q_eqnil tab rfl rfl rfl)) ?_) | (refine i_box ?_; (refine l_boxA rfl rfl (fun _ => ?_))) | (refine l_q rfl rfl rfl (by (first | (apply iq_fld; (exact q_fieldAddr tab rfl rfl rfl rfl rfl rfl rfl)) | (apply iq_nck; (exact q_nilck rfl)))) ?_))) | refine d_seq ?_ | refine c_region ?_ | refine l_nil ?_ | (refine i_q ?_; (first | refine d_then ?_ | refine d_then_ret ?_)) | refine c_ret ?_ | (refine i_cond ?_; (refine c_ct rfl (by (rfl)) ?_))))
    exact t_hp (hp' := []) (fun w h => h.psub (by first | ((repeat (first | exact PSub.nil | exact Ext.head | apply Ext.tail | apply PSub.cons)); done) | fail)) (t_ret2 Try.results48 rfl rfl (.inl ⟨_, _, rfl, by omega⟩))
  | some y =>
    obtain ⟨bp, i, k, e⟩ := y
    obtain ⟨x, t, hx, ht, he⟩ := hptr _ hpv
    dsimp only at hx ht he
    obtain ⟨hxl, ⟨At, ct, hx1, hx2, hx3, hx4⟩, hxt⟩ := htv x (List.mem_of_getElem? hx)
    have hxo := hoff x (List.mem_of_getElem? hx)
    obtain ⟨q1, q2, q3⟩ := (hlists x (List.mem_of_getElem? hx)).tab t (List.mem_of_getElem? ht)
    have hi := (List.getElem?_eq_some_iff.1 hx).1
    have hk := (List.getElem?_eq_some_iff.1 ht).1
    obtain ⟨v, hv⟩ : ∃ v, x.tvs[k]? = some v := ⟨_, List.getElem?_eq_getElem (by omega)⟩
    obtain ⟨en, hen⟩ : ∃ en, t[e]? = some en := ⟨_, List.getElem?_eq_getElem he⟩
    obtain ⟨s1, s2, s3⟩ := q1 en (List.mem_of_getElem? hen)
    obtain ⟨Ae, ce, rfl, he1, he2, he3⟩ := hxt k v t hv ht
    obtain ⟨l, tv, tvs⟩ := x
    dsimp only at hxl hx1 hx2 hx4 hxt hxo ht hk hv
    subst hx1
    refine c_hp (hp' := row 44 3 (.slice Ae t.length ce) t.length (t.flatMap enC) :: starL ((List.zipWith entA tvs l.tabs).set k emp) :: row 37 1 (.slice At tvs.length ct) tvs.length tvs :: starL ((d.xs.map tblA).set i emp) :: [blk p [.int .i64 4, .int .i64 d.step, .slice d.A d.xs.length d.c, .pointer (some ⟨bp, 0, none⟩)] 98, row 27 8 (.slice d.A d.xs.length d.c) d.xs.length (d.xs.flatMap lstCells), blk bp [.int .i64 i, .int .i64 k, .int .i64 e] 125]) (fun w h => by
      have h0 : St _ _ [blk p [.int .i64 4, .int .i64 d.step, .slice d.A d.xs.length d.c, ptV d.pv] 98, row 27 8 (.slice d.A d.xs.length d.c) d.xs.length (d.xs.flatMap lstCells), starL (d.xs.map tblA), ptA d.pv] w := h
      rw [hpv] at h0
      have h1 := h0.psub (hp' := starL (d.xs.map tblA) :: [blk p [.int .i64 4, .int .i64 d.step, .slice d.A d.xs.length d.c, .pointer (some ⟨bp, 0, none⟩)] 98, row 27 8 (.slice d.A d.xs.length d.c) d.xs.length (d.xs.flatMap lstCells), blk bp [.int .i64 i, .int .i64 k, .int .i64 e] 125]) (by first | ((repeat (first | exact PSub.nil | exact Ext.head | apply Ext.tail | apply PSub.cons)); done) | fail)
      have h2 := tbl_focus hx h1
      exact ent_focus hv ht (h2.perm (.swap _ _ _))) ?_
    simp only [cmdC]
    (repeat (first | (refine i_dst ?_; (first | (refine i_move ?_; refine l_q rfl rfl rfl (q_move rfl) ?_) | (refine i_assign ?_; refine l_q rfl rfl rfl (q_assign rfl) ?_) | (refine i_load ?_; refine l_q rfl rfl rfl (by ((exact q_ld1 tab rfl rfl rfl (by first | ((repeat (first | exact List.Mem.head _ | apply List.Mem.tail)); done) | fail) (by (rfl))))) ?_) | (refine i_bin ?_; refine l_q rfl rfl rfl (by (exact q_eqnil tab rfl rfl rfl)) ?_) | (refine i_box ?_; (refine l_boxA rfl rfl (fun _ => ?_))) | (refine l_q rfl rfl rfl (by (first | (apply iq_fld; (exact q_fieldAddr tab rfl rfl rfl rfl rfl rfl rfl)) | (apply iq_nck; (exact q_nilck rfl)))) ?_))) | refine d_seq ?_ | refine c_region ?_ | refine l_nil ?_ | (refine i_q ?_; (refine d_then ?_)) | refine c_skip ?_ | (refine i_cond ?_; (refine c_cf rfl (by (rfl)) ?_))))
    rename_i b3
    (refine a_begin mixed _ 13 rfl (fun w h => h) ?_)
    ((refine a_q 0 rfl rfl rfl rfl rfl (by decide +kernel) (q_move rfl) ?_; refine a_q 1 rfl rfl rfl rfl rfl (by decide +kernel) (by ((apply iq_nck; (exact q_nilck rfl)))) ?_; refine a_q 2 rfl rfl rfl rfl rfl (by decide +kernel) (by ((apply iq_fld; (exact q_fieldAddr tab rfl rfl rfl rfl rfl rfl rfl)))) ?_; ((refine a_q 3 rfl rfl rfl rfl rfl (by decide +kernel) (by ((exact q_ld1 tab rfl rfl rfl (by first | ((repeat (first | exact List.Mem.head _ | apply List.Mem.tail)); done) | fail) (by (rfl))))) ?_)); refine a_q 4 rfl rfl rfl rfl rfl (by decide +kernel) (q_move rfl) ?_; refine a_q 5 rfl rfl rfl rfl rfl (by decide +kernel) (by ((apply iq_nck; (exact q_nilck rfl)))) ?_; refine a_q 6 rfl rfl rfl rfl rfl (by decide +kernel) (by ((apply iq_fld; (exact q_fieldAddr tab rfl rfl rfl rfl rfl rfl rfl)))) ?_; ((refine a_q 7 rfl rfl rfl rfl rfl (by decide +kernel) (by ((exact q_ld1 tab rfl rfl rfl (by first | ((repeat (first | exact List.Mem.head _ | apply List.Mem.tail)); done) | fail) (by (rfl))))) ?_)); refine a_q 8 rfl rfl rfl rfl rfl (by decide +kernel) (by ((apply iq_nck; (exact q_nilck rfl)))) ?_; refine a_q 9 rfl rfl rfl rfl rfl (by decide +kernel) (by ((apply iq_fld; (exact q_fieldAddr tab rfl rfl rfl rfl rfl rfl rfl)))) ?_; ((refine a_q 10 rfl rfl rfl rfl rfl (by decide +kernel) (by ((exact q_ld1 tab rfl rfl rfl (by first | ((repeat (first | exact List.Mem.head _ | apply List.Mem.tail)); done) | fail) (by (rfl))))) ?_)); refine a_q 11 rfl rfl rfl rfl rfl (by decide +kernel) (by ((exact q_ixSN tab rfl rfl rfl rfl (by ((exact fun w h => row_src (h.mem (by first | ((repeat (first | exact List.Mem.head _ | apply List.Mem.tail)); done) | fail))))) (by first | (with_reducible exact Int.toNat_natCast _) | (with_reducible exact Int.toNat_zero) | (with_reducible exact Int.toNat_one) | rfl) (by (omega)) (by (omega))))) ?_; refine a_q 12 rfl rfl rfl rfl rfl (by decide +kernel) (q_assign rfl) ?_))
    refine a_done (by decide +kernel) ?_
    (repeat (first | refine d_seq ?_ | (refine i_q ?_; (refine d_then ?_))))
    (refine a_begin mixed _ 14 rfl (fun w h => h) ?_)
    ((refine a_q 0 rfl rfl rfl rfl rfl (by decide +kernel) (q_move rfl) ?_; refine a_q 1 rfl rfl rfl rfl rfl (by decide +kernel) (by ((apply iq_nck; ((exact q_nckS rfl (by ((exact fun w h => row_src (h.mem (by first | ((repeat (first | exact List.Mem.head _ | apply List.Mem.tail)); done) | fail))))) (by (omega))))))) ?_; refine a_q 2 rfl rfl rfl rfl rfl (by decide +kernel) (by ((apply iq_fld; ((exact q_fldS tab rfl rfl rfl rfl rfl rfl rfl (by ((exact fun w h => row_src (h.mem (by first | ((repeat (first | exact List.Mem.head _ | apply List.Mem.tail)); done) | fail))))) (by (omega))))))) ?_; ((refine a_q 3 rfl rfl rfl rfl rfl (by decide +kernel) (by ((exact q_ldF tab rfl rfl rfl (by ((exact fun w h => row_src (h.mem (by first | ((repeat (first | exact List.Mem.head _ | apply List.Mem.tail)); done) | fail))))) (by exact fun _ => rfl) (by assumption) (by exact rfl)))) ?_)); refine a_q 4 rfl rfl rfl rfl rfl (by decide +kernel) (q_move rfl) ?_; refine a_q 5 rfl rfl rfl rfl rfl (by decide +kernel) (by ((apply iq_nck; (exact q_nilck rfl)))) ?_; refine a_q 6 rfl rfl rfl rfl rfl (by decide +kernel) (by ((apply iq_fld; (exact q_fieldAddr tab rfl rfl rfl rfl rfl rfl rfl)))) ?_; ((refine a_q 7 rfl rfl rfl rfl rfl (by decide +kernel) (by ((exact q_ld1 tab rfl rfl rfl (by first | ((repeat (first | exact List.Mem.head _ | apply List.Mem.tail)); done) | fail) (by (rfl))))) ?_)); refine a_q 8 rfl rfl rfl rfl rfl (by decide +kernel) (by ((apply iq_nck; (exact q_nilck rfl)))) ?_; refine a_q 9 rfl rfl rfl rfl rfl (by decide +kernel) (by ((apply iq_fld; (exact q_fieldAddr tab rfl rfl rfl rfl rfl rfl rfl)))) ?_; ((refine a_q 10 rfl rfl rfl rfl rfl (by decide +kernel) (by ((exact q_ld1 tab rfl rfl rfl (by first | ((repeat (first | exact List.Mem.head _ | apply List.Mem.tail)); done) | fail) (by (rfl))))) ?_)); refine a_q 11 rfl rfl rfl rfl rfl (by decide +kernel) (by ((exact q_ixS1 tab rfl rfl rfl rfl (by ((exact fun w h => row_src (h.mem (by first | ((repeat (first | exact List.Mem.head _ | apply List.Mem.tail)); done) | fail))))) (by first | (with_reducible exact Int.toNat_natCast _) | (with_reducible exact Int.toNat_zero) | (with_reducible exact Int.toNat_one) | rfl) (by (omega)) (by (omega))))) ?_; ((refine a_q 12 rfl rfl rfl rfl rfl (by decide +kernel) (by ((exact q_ldS tab rfl rfl rfl (by ((exact fun w h => row_src (h.mem (by first | ((repeat (first | exact List.Mem.head _ | apply List.Mem.tail)); done) | fail))))) (by (assumption))))) ?_)); refine a_q 13 rfl rfl rfl rfl rfl (by decide +kernel) (q_assign rfl) ?_))
    refine a_done (by decide +kernel) ?_
    (repeat (first | refine d_seq ?_ | (refine i_q ?_; (refine d_then ?_))))
    (refine a_begin mixed _ 18 rfl (fun w h => h) ?_)
    ((refine a_q 0 rfl rfl rfl rfl rfl (by decide +kernel) (by ((apply iq_fld; (exact q_fieldAddr tab rfl rfl rfl rfl rfl rfl rfl)))) ?_; refine a_q 1 rfl rfl rfl rfl rfl (by decide +kernel) (by (exact q_indexAddrA1 tab rfl rfl rfl rfl (by omega))) ?_; ((refine a_q 2 rfl rfl rfl rfl rfl (by decide +kernel) (by ((exact q_ld1 tab rfl rfl rfl (by first | ((repeat (first | exact List.Mem.head _ | apply List.Mem.tail)); done) | fail) (by (rfl))))) ?_)); refine a_q 3 rfl rfl rfl rfl rfl (by decide +kernel) (by ((apply iq_cv; (exact q_conv tab rfl rfl rfl (by (exact wr_i64 (by omega))))))) ?_; refine a_q 4 rfl rfl rfl rfl rfl (by decide +kernel) (q_move rfl) ?_; refine a_q 5 rfl rfl rfl rfl rfl (by decide +kernel) (q_move rfl) ?_; refine a_q 6 rfl rfl rfl rfl rfl (by decide +kernel) (by ((apply iq_nck; (exact q_nilck rfl)))) ?_; refine a_q 7 rfl rfl rfl rfl rfl (by decide +kernel) (by ((apply iq_fld; (exact q_fieldAddr tab rfl rfl rfl rfl rfl rfl rfl)))) ?_; ((refine a_q 8 rfl rfl rfl rfl rfl (by decide +kernel) (by ((exact q_ld1 tab rfl rfl rfl (by first | ((repeat (first | exact List.Mem.head _ | apply List.Mem.tail)); done) | fail) (by (rfl))))) ?_)); refine a_q 9 rfl rfl rfl rfl rfl (by decide +kernel) (by ((apply iq_nck; (exact q_nilck rfl)))) ?_; refine a_q 10 rfl rfl rfl rfl rfl (by decide +kernel) (by ((apply iq_fld; (exact q_fieldAddr tab rfl rfl rfl rfl rfl rfl rfl)))) ?_; ((refine a_q 11 rfl rfl rfl rfl rfl (by decide +kernel) (by ((exact q_ld1 tab rfl rfl rfl (by first | ((repeat (first | exact List.Mem.head _ | apply List.Mem.tail)); done) | fail) (by (rfl))))) ?_)); refine a_q 12 rfl rfl rfl rfl rfl (by decide +kernel) (by ((exact q_ixSN tab rfl rfl rfl rfl (by ((exact fun w h => row_src (h.mem (by first | ((repeat (first | exact List.Mem.head _ | apply List.Mem.tail)); done) | fail))))) (by first | (with_reducible exact Int.toNat_natCast _) | (with_reducible exact Int.toNat_zero) | (with_reducible exact Int.toNat_one) | rfl) (by (omega)) (by (omega))))) ?_; refine a_q 13 rfl rfl rfl rfl rfl (by decide +kernel) (by ((apply iq_fld; ((exact q_fldS tab rfl rfl rfl rfl rfl rfl rfl (by ((exact fun w h => row_src (h.mem (by first | ((repeat (first | exact List.Mem.head _ | apply List.Mem.tail)); done) | fail))))) (by (omega))))))) ?_; ((refine a_q 14 rfl rfl rfl rfl rfl (by decide +kernel) (by ((exact q_ldF tab rfl rfl rfl (by ((exact fun w h => row_src (h.mem (by first | ((repeat (first | exact List.Mem.head _ | apply List.Mem.tail)); done) | fail))))) (by exact fun _ => rfl) (by assumption) (by exact rfl)))) ?_)); refine a_q 15 rfl rfl rfl rfl rfl (by decide +kernel) (by ((apply iq_cv; (exact q_conv tab rfl rfl rfl (by (exact wr_i64 (by omega))))))) ?_; refine a_q 16 rfl rfl rfl rfl rfl (by decide +kernel) (by (exact q_sub rfl rfl (by (exact wr_i64 (by omega))))) ?_; refine a_q 17 rfl rfl rfl rfl rfl (by decide +kernel) (q_assign rfl) ?_))
    refine a_done (by decide +kernel) ?_
    (repeat (first | (refine i_dst ?_; (first | (refine i_move ?_; refine l_q rfl rfl rfl (q_move rfl) ?_) | (refine i_blt ?_; refine l_q rfl rfl rfl (by (exact q_len tab rfl rfl)) ?_))) | refine d_seq ?_ | refine c_region ?_ | refine l_nil ?_ | refine c_block ?_ | (refine i_q ?_; (refine d_then ?_))))
    refine d_loop (T := Nat) [0, 3, 6, 7, 58, 59] (fun j => [(8, .int .i64 ((c.a0 : Int) - (en.size : Int) + (needsM (t.take j) : Nat))), (60, .int .i64 j)]) [blk b3 [.int .u8 c.code, .int .u8 c.a0, .int .u8 c.a1, .int .u8 c.a2, .int .u8 c.a3, .int .u8 c.a4, .int .u32 c.w, .slice none 0 0] 59, row 44 3 (.slice Ae t.length ce) t.length (t.flatMap enC), starL ((List.zipWith entA tvs l.tabs).set k emp), row 37 1 (.slice At tvs.length ct) tvs.length tvs, starL ((d.xs.map tblA).set i emp), blk p [.int .i64 4, .int .i64 d.step, .slice d.A d.xs.length d.c, .pointer (some ⟨bp, 0, none⟩)] 98, row 27 8 (.slice d.A d.xs.length d.c) d.xs.length (d.xs.flatMap lstCells), blk bp [.int .i64 i, .int .i64 k, .int .i64 e] 125] (fun _ => []) (fun j => j ≤ t.length ∧ needsM (t.take j) ≤ 7) (fun j => t.length - j) 0 (by first | ((repeat (first | exact Pick.nil | exact rfl | apply Pick.cons)); done) | fail) ⟨Nat.zero_le _, Nat.zero_le _⟩ (⟨look_int rfl (by simp [needsM]), rfl, trivial⟩) (fun w h => h.subl (by first | ((repeat (first | exact SubL.nil | apply SubL.keep | apply SubL.skip)); done) | fail)) ?_
    rintro j ⟨hj, hj7⟩
    by_cases hjl : j < t.length
    · obtain ⟨ej, hej⟩ : ∃ ej, t[j]? = some ej := ⟨_, List.getElem?_eq_getElem hjl⟩
      have hst1 := needsM_take hej
      have hle := needsM_le (t := t) (k := j + 1)
      obtain ⟨r1, r2, r3⟩ := q1 ej (List.mem_of_getElem? hej)
      have hejc : enC ej = [.int .u8 ej.size, .int .u8 ej.area, .int .u32 ej.at_] := rfl
      generalize needsM (t.take j) = s at hj7 hst1 ⊢
      (repeat (first | (refine i_dst ?_; (first | (refine i_move ?_; refine l_q rfl rfl rfl (q_move rfl) ?_) | (refine i_assign ?_; refine l_q rfl rfl rfl (q_assign rfl) ?_) | (refine i_load ?_; refine l_q rfl rfl rfl (by (first | (exact q_ld1 tab rfl rfl rfl (by first | ((repeat (first | exact List.Mem.head _ | apply List.Mem.tail)); done) | fail) (by (rfl))) | (exact q_ldFN tab rfl rfl rfl rfl (by ((exact fun w h => row_src (h.mem (by first | ((repeat (first | exact List.Mem.head _ | apply List.Mem.tail)); done) | fail))))) (by exact fun _ => rfl) (by assumption) (by exact rfl) (by exact List.cons_ne_nil _ _)))) ?_) | (refine i_bin ?_; refine l_q rfl rfl rfl (by (first | exact q_lss rfl rfl | exact q_add rfl rfl (by (exact wr_i64 (by omega))))) ?_) | (refine i_ix ?_; refine l_q rfl rfl rfl (by ((exact q_ixSN tab rfl rfl rfl rfl (by ((exact fun w h => row_src (h.mem (by first | ((repeat (first | exact List.Mem.head _ | apply List.Mem.tail)); done) | fail))))) (by first | (with_reducible exact Int.toNat_natCast _) | (with_reducible exact Int.toNat_zero) | (with_reducible exact Int.toNat_one) | rfl) (by (omega)) (by (omega))))) ?_) | (refine i_alloc ?_; (refine l_allocA tab rfl rfl (fun _ => ?_))) | (refine l_q rfl rfl rfl (by (first | (apply iq_fld; (exact q_fieldAddr tab rfl rfl rfl rfl rfl rfl rfl)) | (apply iq_cv; (exact q_conv tab rfl rfl rfl (by (exact wr_i64 (by omega))))))) ?_))) | refine d_seq ?_ | refine c_region ?_ | refine l_nil ?_ | refine c_block ?_ | (refine i_q ?_; (first | refine d_then ?_ | refine t_then ?_ | refine t_block ?_)) | refine c_skip ?_ | (refine i_store ?_; ((refine l_setN tab rfl rfl rfl rfl (List.cons_ne_nil _ _) rfl (by first | ((repeat (first | exact Upd.head | apply Upd.tail)); done) | fail) (by first | ((repeat (first | exact LSets.nil | exact LSet.zero | apply LSets.cons | apply LSet.succ)); done) | fail) ?_))) | (refine i_cond ?_; (refine c_ct rfl (by (exact decide_eq_true (by omega))) ?_))))
      refine k_again (j + 1) ⟨by omega, by omega⟩ (by omega) ?_ (fun w h => h.subl (by first | ((repeat (first | exact SubL.nil | apply SubL.keep | apply SubL.skip)); done) | fail))
      rw [hst1]
      exact (by first | ((repeat (first | exact trivial | exact rfl | apply Sub.cons | exact look_int rfl (by omega) | exact look_int rfl (by simp) | exact look_int rfl (by simp; omega))); done) | fail)
    · have hjn : j = t.length := by omega
      subst hjn
      rw [List.take_length]
      by_cases hz : c.a0 = 0
      · (repeat (first | (refine i_dst ?_; (first | (refine i_move ?_; refine l_q rfl rfl rfl (q_move rfl) ?_) | (refine i_assign ?_; refine l_q rfl rfl rfl (q_assign rfl) ?_) | (refine i_load ?_; refine l_q rfl rfl rfl (by ((exact q_ld1 tab rfl rfl rfl (by first | ((repeat (first | exact List.Mem.head _ | apply List.Mem.tail)); done) | fail) (by (rfl))))) ?_) | (refine i_bin ?_; refine l_q rfl rfl rfl (by (first | exact q_lss rfl rfl | exact q_eql rfl rfl)) ?_) | (refine i_ix ?_; refine l_q rfl rfl rfl (by (exact q_indexAddrA1 tab rfl rfl rfl rfl (by omega))) ?_) | (refine l_q rfl rfl rfl (by (first | (apply iq_fld; (exact q_fieldAddr tab rfl rfl rfl rfl rfl rfl rfl)) | exact q_pick_t rfl rfl)) ?_))) | refine d_seq ?_ | refine c_region ?_ | refine l_nil ?_ | refine c_block ?_ | (refine i_q ?_; (first | refine d_then ?_ | refine d_then_exit ?_ | refine d_then_ret ?_ | refine t_then_exit ?_ | refine t_block_ret ?_ | refine t_block_eq rfl ?_)) | refine c_exit ?_ | refine c_ret ?_ | (refine i_guard ?_; (first | refine l_gf rfl rfl rfl rfl rfl rfl ?_ | (refine l_gfd rfl rfl rfl (by ((simp; omega))) rfl rfl ?_))) | (refine i_cond ?_; (first | refine c_ct rfl (by (rfl)) ?_ | (refine c_cf rfl (by (((first | (simp; done) | fail)))) ?_)))))
        exact t_hp (hp' := []) (fun w h => h.psub (by first | ((repeat (first | exact PSub.nil | exact Ext.head | apply Ext.tail | apply PSub.cons)); done) | fail)) (t_ret2 Try.results48 rfl rfl (.inl ⟨_, _, rfl, by omega⟩))
      · by_cases h7 : needsM t + c.a0 ≤ 7 + en.size
        · (repeat (first | (refine i_dst ?_; (first | (refine i_move ?_; refine l_q rfl rfl rfl (q_move rfl) ?_) | (refine i_assign ?_; refine l_q rfl rfl rfl (q_assign rfl) ?_) | (refine i_load ?_; refine l_q rfl rfl rfl (by (first | (exact q_ld1 tab rfl rfl rfl (by first | ((repeat (first | exact List.Mem.head _ | apply List.Mem.tail)); done) | fail) (by (rfl))) | (exact q_ldF tab rfl rfl rfl (by ((exact fun w h => row_src (h.mem (by first | ((repeat (first | exact List.Mem.head _ | apply List.Mem.tail)); done) | fail))))) (by exact fun _ => rfl) (by assumption) (by exact rfl)))) ?_) | (refine i_bin ?_; refine l_q rfl rfl rfl (by (first | exact q_lss rfl rfl | exact q_eql rfl rfl | exact q_gtr rfl rfl)) ?_) | (refine i_ix ?_; refine l_q rfl rfl rfl (by (exact q_indexAddrA1 tab rfl rfl rfl rfl (by omega))) ?_) | (refine l_q rfl rfl rfl (by (first | (apply iq_fld; (first | exact q_fieldAddr tab rfl rfl rfl rfl rfl rfl rfl | (exact q_fldS tab rfl rfl rfl rfl rfl rfl rfl (by ((exact fun w h => row_src (h.mem (by first | ((repeat (first | exact List.Mem.head _ | apply List.Mem.tail)); done) | fail))))) (by (omega))))) | (apply iq_nck; ((exact q_nckS rfl (by ((exact fun w h => row_src (h.mem (by first | ((repeat (first | exact List.Mem.head _ | apply List.Mem.tail)); done) | fail))))) (by (omega))))) | exact q_pick_f rfl rfl)) ?_))) | refine d_seq ?_ | refine c_region ?_ | refine l_nil ?_ | refine c_block ?_ | (refine i_q ?_; (first | refine d_then ?_ | refine d_then_exit ?_ | refine t_then_exit ?_ | refine t_block ?_ | refine t_block_eq rfl ?_)) | refine c_skip ?_ | refine c_exit ?_ | (refine i_guard ?_; (first | refine l_gt rfl rfl rfl ?_ | (refine l_gtd rfl rfl rfl (by ((simp; omega))) ?_))) | (refine i_cond ?_; ((refine c_cf rfl (by (first | assumption | ((first | (simp; done) | fail)) | exact decide_eq_false (by omega))) ?_)))))
          refine c_ex (fun w h => row_open (by omega) (h.ext (X := row 44 3 (.slice Ae t.length ce) t.length (t.flatMap enC)) (by first | ((repeat (first | exact Ext.head | apply Ext.tail)); done) | fail))) ?_
          rintro ⟨ge, junk⟩ ⟨hge, hg1, hg2, hg3⟩
          dsimp only at hge hg3 ⊢
          subst hge
          refine c_hp (hp' := blk ge (t.flatMap enC ++ junk) 44 :: blk b3 [.int .u8 c.code, .int .u8 c.a0, .int .u8 c.a1, .int .u8 c.a2, .int .u8 c.a3, .int .u8 c.a4, .int .u32 c.w, .slice none 0 0] 59 :: [starL ((List.zipWith entA tvs l.tabs).set k emp), row 37 1 (.slice At tvs.length ct) tvs.length tvs, starL ((d.xs.map tblA).set i emp), blk p [.int .i64 4, .int .i64 d.step, .slice d.A d.xs.length d.c, .pointer (some ⟨bp, 0, none⟩)] 98, row 27 8 (.slice d.A d.xs.length d.c) d.xs.length (d.xs.flatMap lstCells), blk bp [.int .i64 i, .int .i64 k, .int .i64 e] 125]) (fun w h => h.psub (by first | ((repeat (first | exact PSub.nil | exact Ext.head | apply Ext.tail | apply PSub.cons)); done) | fail)) ?_
          have hob : 0 + (e : Int).toNat * 3 + 3 ≤ (t.flatMap enC ++ junk).length := by rw [hg3]; omega
          (refine a_begin mixed [blk b3 [.int .u8 c.code, .int .u8 c.a0, .int .u8 c.a1, .int .u8 c.a2, .int .u8 c.a3, .int .u8 c.a4, .int .u32 c.w, .slice none 0 0] 59, starL ((List.zipWith entA tvs l.tabs).set k emp), row 37 1 (.slice At tvs.length ct) tvs.length tvs, starL ((d.xs.map tblA).set i emp), blk p [.int .i64 4, .int .i64 d.step, .slice d.A d.xs.length d.c, .pointer (some ⟨bp, 0, none⟩)] 98, row 27 8 (.slice d.A d.xs.length d.c) d.xs.length (d.xs.flatMap lstCells), blk bp [.int .i64 i, .int .i64 k, .int .i64 e] 125] 19 rfl (fun w h => h.subl (by first | ((repeat (first | exact SubL.nil | apply SubL.keep | apply SubL.skip)); done) | fail)) ?_)
          ((refine a_q 0 rfl rfl rfl rfl rfl (by decide +kernel) (q_move rfl) ?_; refine a_q 1 rfl rfl rfl rfl rfl (by decide +kernel) (q_move rfl) ?_; refine a_q 2 rfl rfl rfl rfl rfl (by decide +kernel) (by ((apply iq_nck; (exact q_nilck rfl)))) ?_; refine a_q 3 rfl rfl rfl rfl rfl (by decide +kernel) (by ((apply iq_fld; (exact q_fieldAddr tab rfl rfl rfl rfl rfl rfl rfl)))) ?_; ((refine a_q 4 rfl rfl rfl rfl rfl (by decide +kernel) (by ((exact q_ld1 tab rfl rfl rfl (by first | ((repeat (first | exact List.Mem.head _ | apply List.Mem.tail)); done) | fail) (by (rfl))))) ?_)); refine a_q 5 rfl rfl rfl rfl rfl (by decide +kernel) (by ((apply iq_nck; (exact q_nilck rfl)))) ?_; refine a_q 6 rfl rfl rfl rfl rfl (by decide +kernel) (by ((apply iq_fld; (exact q_fieldAddr tab rfl rfl rfl rfl rfl rfl rfl)))) ?_; ((refine a_q 7 rfl rfl rfl rfl rfl (by decide +kernel) (by ((exact q_ld1 tab rfl rfl rfl (by first | ((repeat (first | exact List.Mem.head _ | apply List.Mem.tail)); done) | fail) (by (rfl))))) ?_)); refine a_q 8 rfl rfl rfl rfl rfl (by decide +kernel) (by ((apply iq_fld; (exact q_fieldAddr tab rfl rfl rfl rfl rfl rfl rfl)))) ?_; refine a_q 9 rfl rfl rfl rfl rfl (by decide +kernel) (by (exact q_indexAddrA1 tab rfl rfl rfl rfl (by omega))) ?_; ((refine a_q 10 rfl rfl rfl rfl rfl (by decide +kernel) (by ((exact q_ld1 tab rfl rfl rfl (by first | ((repeat (first | exact List.Mem.head _ | apply List.Mem.tail)); done) | fail) (by (rfl))))) ?_)); refine a_q 11 rfl rfl rfl rfl rfl (by decide +kernel) (by ((apply iq_fld; (exact q_fieldAddr tab rfl rfl rfl rfl rfl rfl rfl)))) ?_; refine a_q 12 rfl rfl rfl rfl rfl (by decide +kernel) (by (exact q_indexAddrA1 tab rfl rfl rfl rfl (by omega))) ?_; ((refine a_q 13 rfl rfl rfl rfl rfl (by decide +kernel) (by ((exact q_ld1 tab rfl rfl rfl (by first | ((repeat (first | exact List.Mem.head _ | apply List.Mem.tail)); done) | fail) (by (rfl))))) ?_)); refine a_q 14 rfl rfl rfl rfl rfl (by decide +kernel) (by ((apply iq_fld; (exact q_fieldAddr tab rfl rfl rfl rfl rfl rfl rfl)))) ?_; ((refine a_q 15 rfl rfl rfl rfl rfl (by decide +kernel) (by ((exact q_ld1 tab rfl rfl rfl (by first | ((repeat (first | exact List.Mem.head _ | apply List.Mem.tail)); done) | fail) (by (rfl))))) ?_)); refine a_q 16 rfl rfl rfl rfl rfl (by decide +kernel) (by ((apply iq_bld; ((exact q_bld tab rfl rfl rfl (by first | ((repeat (first | exact FillR.nil | exact LSets.nil | exact LSet.zero | exact CellsOf.agg | exact rfl | exact CellsOf.one rfl | apply FillR.cons | apply LSets.cons | apply LSet.succ)); done) | fail) (fun w => by kernel_rfl)))))) ?_; refine a_q 17 rfl rfl rfl rfl rfl (by decide +kernel) (by (exact q_indexAddr tab rfl rfl rfl rfl (by omega))) ?_))
          refine a_e 18 rfl (by decide +kernel) rfl (fun K hK => e_storeN tab (vs := [.int .u8 c.a0, .int .u8 c.a1, .int .u32 c.w]) rfl rfl rfl (i := 0) rfl rfl rfl hob rfl (hK _ _ (fun w h => h.subl (by first | ((repeat (first | exact SubL.nil | apply SubL.keep | apply SubL.skip)); done) | fail)) ?_))
          clear hK
          refine a_done (by decide +kernel) ?_
          refine t_hp (hp' := blk ge ((t.set e ⟨c.a0, c.a1, c.w⟩).flatMap enC ++ junk) 44 :: blk b3 [.int .u8 c.code, .int .u8 c.a0, .int .u8 c.a1, .int .u8 c.a2, .int .u8 c.a3, .int .u8 c.a4, .int .u32 c.w, .slice none 0 0] 59 :: [starL ((List.zipWith entA tvs l.tabs).set k emp), row 37 1 (.slice At tvs.length ct) tvs.length tvs, starL ((d.xs.map tblA).set i emp), blk p [.int .i64 4, .int .i64 d.step, .slice d.A d.xs.length d.c, .pointer (some ⟨bp, 0, none⟩)] 98, row 27 8 (.slice d.A d.xs.length d.c) d.xs.length (d.xs.flatMap lstCells), blk bp [.int .i64 i, .int .i64 k, .int .i64 e] 125]) (fun w h => by
            rw [← ent_setAt hen]
            rw [Int.toNat_natCast, Nat.zero_add] at h
            exact h) ?_
          (repeat (first | (refine i_dst ?_; (first | (refine i_move ?_; refine l_q rfl rfl rfl (q_move rfl) ?_) | (refine i_load ?_; refine l_q rfl rfl rfl (by ((exact q_ld1 tab rfl rfl rfl (by first | ((repeat (first | exact List.Mem.head _ | apply List.Mem.tail)); done) | fail) (by (rfl))))) ?_) | (refine i_bin ?_; refine l_q rfl rfl rfl (by (first | exact q_eql rfl rfl | exact q_add rfl rfl (by (exact wr_i64 (by omega))))) ?_) | (refine i_blt ?_; refine l_q rfl rfl rfl (by (exact q_len tab rfl rfl)) ?_) | (refine l_q rfl rfl rfl (by (first | (apply iq_fld; (exact q_fieldAddr tab rfl rfl rfl rfl rfl rfl rfl)) | (apply iq_nck; (exact q_nilck rfl)))) ?_))) | refine d_seq ?_ | refine c_region ?_ | refine l_nil ?_ | (refine i_q ?_; (refine d_then ?_)) | (refine i_store ?_; ((refine l_set tab rfl rfl rfl rfl (by first | ((repeat (first | exact Upd.head | apply Upd.tail)); done) | fail) (by first | ((repeat (first | exact LSet.zero | apply LSet.succ)); done) | fail) ?_)))))
          rw [show ((e : Int) + 1) = ((e + 1 : Nat) : Int) from rfl]
          by_cases hel : e + 1 = t.length
          · (repeat (first | (refine i_dst ?_; (first | (refine i_move ?_; refine l_q rfl rfl rfl (q_move rfl) ?_) | (refine i_assign ?_; refine l_q rfl rfl rfl (q_assign rfl) ?_) | (refine l_q rfl rfl rfl (by (first | (apply iq_fld; (exact q_fieldAddr tab rfl rfl rfl rfl rfl rfl rfl)) | (apply iq_nck; (exact q_nilck rfl)))) ?_))) | refine d_seq ?_ | refine c_region ?_ | refine l_nil ?_ | (refine i_q ?_; (refine d_then ?_)) | refine c_ret ?_ | (refine i_store ?_; ((refine l_set tab rfl rfl rfl rfl (by first | ((repeat (first | exact Upd.head | apply Upd.tail)); done) | fail) (by first | ((repeat (first | exact LSet.zero | apply LSet.succ)); done) | fail) ?_))) | (refine i_cond ?_; (refine c_ct rfl (by (exact decide_eq_true (by omega))) ?_))))
            refine t_hp (hp' := dqL p ⟨d.step, d.A, d.c, d.xs.set i (wrX ⟨l, .slice At tvs.length ct, tvs⟩ k e t ⟨c.a0, c.a1, c.w⟩), none⟩) (fun w h => wrX_st hx hxl hv ht hen hg1 hg2 hg3 ((emp_st h).psub (hp' := [blk ge ((t.set e ⟨c.a0, c.a1, c.w⟩).flatMap enC ++ junk) 44, starL ((List.zipWith entA tvs l.tabs).set k emp), row 37 1 (.slice At tvs.length ct) tvs.length tvs, starL ((d.xs.map tblA).set i emp), blk p [.int .i64 4, .int .i64 d.step, .slice d.A d.xs.length d.c, .pointer none] 98, row 27 8 (.slice d.A d.xs.length d.c) d.xs.length (d.xs.flatMap lstCells), emp]) (by first | ((repeat (first | exact PSub.nil | exact Ext.head | apply Ext.tail | apply PSub.cons)); done) | fail))) (t_ret2 Try.results48 rfl rfl (.inr ⟨_, _, rfl, rfl, wrX_ok hok0 hx ht hen ⟨ha0, ha1, hw⟩ h7 ?_, fun _ => off_set hoff hxo, ⟨by omega, fun _ _ => ?_, by omega, by omega, by omega⟩⟩))
            · intro z hz
              cases hz
            · rw [lsOf, ls_set, List.length_set]
          · (repeat (first | (refine i_dst ?_; ((refine i_assign ?_; refine l_q rfl rfl rfl (q_assign rfl) ?_))) | refine d_seq ?_ | refine c_region ?_ | refine l_nil ?_ | (refine i_q ?_; (refine d_then ?_)) | refine c_skip ?_ | refine c_ret ?_ | (refine i_cond ?_; (refine c_cf rfl (by (exact decide_eq_false (by omega))) ?_))))
            refine t_hp (hp' := dqL p ⟨d.step, d.A, d.c, d.xs.set i (wrX ⟨l, .slice At tvs.length ct, tvs⟩ k e t ⟨c.a0, c.a1, c.w⟩), some (bp, i, k, e + 1)⟩) (fun w h => wrX_st hx hxl hv ht hen hg1 hg2 hg3 (h.psub (hp' := [blk ge ((t.set e ⟨c.a0, c.a1, c.w⟩).flatMap enC ++ junk) 44, starL ((List.zipWith entA tvs l.tabs).set k emp), row 37 1 (.slice At tvs.length ct) tvs.length tvs, starL ((d.xs.map tblA).set i emp), blk p [.int .i64 4, .int .i64 d.step, .slice d.A d.xs.length d.c, .pointer (some ⟨bp, 0, none⟩)] 98, row 27 8 (.slice d.A d.xs.length d.c) d.xs.length (d.xs.flatMap lstCells), blk bp [.int .i64 i, .int .i64 k, .int .i64 ((e + 1 : Nat) : Int)] 125]) (by first | ((repeat (first | exact PSub.nil | exact Ext.head | apply Ext.tail | apply PSub.cons)); done) | fail))) (t_ret2 Try.results48 rfl rfl (.inr ⟨_, _, rfl, rfl, wrX_ok hok0 hx ht hen ⟨ha0, ha1, hw⟩ h7 ?_, fun _ => off_set hoff hxo, ⟨by omega, fun _ _ => ?_, by omega, by omega, by omega⟩⟩))
            · intro z hz
              injection hz with hz
              subst hz
              exact ⟨rfl, rfl, by dsimp only; omega⟩
            · rw [lsOf, ls_set, List.length_set]
        · (repeat (first | (refine i_dst ?_; (first | (refine i_move ?_; refine l_q rfl rfl rfl (q_move rfl) ?_) | (refine i_assign ?_; refine l_q rfl rfl rfl (q_assign rfl) ?_) | (refine i_load ?_; refine l_q rfl rfl rfl (by ((exact q_ld1 tab rfl rfl rfl (by first | ((repeat (first | exact List.Mem.head _ | apply List.Mem.tail)); done) | fail) (by (rfl))))) ?_) | (refine i_bin ?_; refine l_q rfl rfl rfl (by (first | exact q_lss rfl rfl | exact q_eql rfl rfl | exact q_gtr rfl rfl)) ?_) | (refine i_ix ?_; refine l_q rfl rfl rfl (by (exact q_indexAddrA1 tab rfl rfl rfl rfl (by omega))) ?_) | (refine l_q rfl rfl rfl (by (first | (apply iq_fld; (exact q_fieldAddr tab rfl rfl rfl rfl rfl rfl rfl)) | exact q_pick_f rfl rfl)) ?_))) | refine d_seq ?_ | refine c_region ?_ | refine l_nil ?_ | refine c_block ?_ | (refine i_q ?_; (first | refine d_then ?_ | refine d_then_exit ?_ | refine d_then_ret ?_ | refine t_then_exit ?_ | refine t_block_ret ?_ | refine t_block_eq rfl ?_)) | refine c_exit ?_ | refine c_ret ?_ | (refine i_guard ?_; (first | refine l_gt rfl rfl rfl ?_ | (refine l_gtd rfl rfl rfl (by ((simp; omega))) ?_))) | (refine i_cond ?_; (first | refine c_ct rfl (by (exact decide_eq_true (by omega))) ?_ | (refine c_cf rfl (by (((first | (simp; done) | fail)))) ?_)))))
          exact t_hp (hp' := []) (fun w h => h.psub (by first | ((repeat (first | exact PSub.nil | exact Ext.head | apply Ext.tail | apply PSub.cons)); done) | fail)) (t_ret2 Try.results48 rfl rfl (.inl ⟨_, _, rfl, by omega⟩))
end Go.Proofs.Ytboccjdncdaakaa

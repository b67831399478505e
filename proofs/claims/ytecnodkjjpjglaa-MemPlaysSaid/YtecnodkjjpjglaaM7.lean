/-
  Layer 8: Copy, walked.
-/
import Derived.Test.YtecnodkjjpjglaaM6
set_option linter.unusedVariables false
set_option maxRecDepth 100000
namespace Go.Proofs.Ytecnodkjjpjglaa
open Go.RowKit
attribute [local irreducible] TL TC TQ TK TO Qt TA


section
variable {p : Nat} {m : MemV} {w : World}
/-- What Copy leaves and tells. -/
def copyM (M : Mm) (seg from_ to : Int) : Mm × Int :=
  match thereM M seg [from_, to] with
  | none => (M, 82)
  | some s => if to = 0 then (M, 81) else ({ M with segs := M.segs.set seg.toNat { s with dat := s.dat.set to.toNat (s.dat.getD from_.toNat []) } }, 0)
theorem there_get {M : Mm} {seg : Int} {ps : List Int} {s : Seg} (h : thereM M seg ps = some s) : 0 ≤ seg ∧ M.segs[seg.toNat]? = some s ∧ ∀ p ∈ ps, 0 ≤ p ∧ p ≤ (s.dat.length : Int) - 1 := by
  unfold thereM at h
  by_cases h0 : 0 ≤ seg
  · rw [if_pos h0] at h
    cases hs : M.segs[seg.toNat]? with
    | none => rw [hs] at h; cases h
    | some t =>
      rw [hs] at h
      dsimp only at h
      split at h
      · rename_i hall
        injection h with h
        subst h
        refine ⟨h0, rfl, fun p hp => ?_⟩
        have := List.all_eq_true.1 hall p hp
        simpa using this
      · cases h
  · rw [if_neg h0] at h
    cases h
attribute [local irreducible] blk row bytesA starL memA segA roB

set_option maxHeartbeats 4000000 in
theorem copy_spec (hA : Hold [memA p m] w) (hk : MmOk m.abs) (seg from_ to : Int) :
    Calls Try.prog 28 #[.pointer (some ⟨p, 0, none⟩), .int .i64 seg, .int .i64 from_, .int .i64 to] w (Ret w [memA p m] (WriteR p (copyM m.abs seg from_ to))) := by
  refine enter (vs := [.pointer (some ⟨p, 0, none⟩), .int .i64 seg, .int .i64 from_, .int .i64 to]) Try.func28 rfl Try.ntmps28 rfl hA ?_
  have hh : (memA p m).C w := hA.all _ (by simp)
  (repeat (first | (refine i_dst ?_; (first | (refine i_move ?_; refine l_q rfl rfl rfl (q_move rfl) ?_) | (refine i_assign ?_; refine l_q rfl rfl rfl (q_assign rfl) ?_) | (refine i_bin ?_; refine l_q rfl rfl rfl (by (exact q_eqnil tab rfl rfl rfl)) ?_))) | refine c_seq (fun K hK => ?_) | refine c_region ?_ | refine l_nil ?_ | refine t_then ?_ | (refine i_k ?_; (((refine hK _ _ ?_; clear hK)))) | refine c_skip ?_ | (refine i_cond ?_; (refine c_cf rfl (by (rfl)) ?_))))
  refine l_op rfl (fun K hK => e_buildSlice (l := [.int .i64 from_, .int .i64 to]) (e := 3) rfl rfl (fun w => by kernel_rfl) (fun g => hK _ _ ?_))
  clear hK
  (repeat fail)
  refine l_op rfl (fun K hK => e_call0 rfl rfl Try.func47 rfl (by decide) (fun w' h => of_spec (roHp0 h (i := 1) rfl) hk seg _ 2 2 [from_, to] (Ro.empty (roV_blk (h.get (i := 0) rfl) rfl)) (by omega)) (fun v B hv => hK _ _ ?_))
  obtain ⟨rfl, rfl⟩ := hv
  clear hK
  rcases ofV_there hh seg [from_, to] with ⟨s, hs0, hs, ht, hv⟩ | ⟨ht, hv⟩
  · rw [hv]
    obtain ⟨_, _, hps⟩ := there_get ht
    have hf := hps from_ (by simp)
    have hto := hps to (by simp)
    obtain ⟨fr, rfl⟩ : ∃ fr : Nat, from_ = fr := ⟨from_.toNat, by omega⟩
    obtain ⟨tt, rfl⟩ : ∃ tt : Nat, to = tt := ⟨to.toNat, by omega⟩
    by_cases h0 : tt = 0
    · have e1 : copyM m.abs seg fr tt = (m.abs, 81) := by rw [copyM, ht]; simp [h0]
      (repeat (first | (refine i_dst ?_; (first | (refine i_move ?_; refine l_q rfl rfl rfl (q_move rfl) ?_) | (refine i_assign ?_; refine l_q rfl rfl rfl (q_assign rfl) ?_) | (refine i_bin ?_; refine l_q rfl rfl rfl (by (first | exact q_eql rfl rfl | exact q_eqnil tab rfl rfl rfl)) ?_))) | refine c_seq (fun K hK => ?_) | refine c_region ?_ | refine l_nil ?_ | refine t_then ?_ | (refine i_k ?_; (((refine hK _ _ ?_; clear hK)))) | refine c_block ?_ | (refine i_q ?_; (first | refine t_then_ret ?_ | refine t_block_ret ?_)) | refine c_ret ?_ | (refine i_cond ?_; (first | refine c_ct rfl (by (exact decide_eq_true (by omega))) ?_ | refine c_cf rfl (by (rfl)) ?_))))
      exact t_hp (hp' := [memA p m]) (fun w h => h.pick [1] rfl) (t_ret1 Try.results28 rfl ⟨m, rfl, by rw [e1], by rw [e1]⟩)
    · (repeat (first | (refine i_dst ?_; (first | (refine i_move ?_; refine l_q rfl rfl rfl (q_move rfl) ?_) | (refine i_assign ?_; refine l_q rfl rfl rfl (q_assign rfl) ?_) | (refine i_bin ?_; refine l_q rfl rfl rfl (by (first | exact q_eql rfl rfl | exact q_eqnil tab rfl rfl rfl)) ?_))) | refine c_seq (fun K hK => ?_) | refine c_region ?_ | refine l_nil ?_ | refine t_then ?_ | (refine i_k ?_; (((refine hK _ _ ?_; clear hK)))) | refine c_block ?_ | (refine i_q ?_; (refine t_block ?_)) | refine c_skip ?_ | (refine i_cond ?_; (refine c_cf rfl (by (first | rfl | exact decide_eq_false (by omega))) ?_))))
      have hso := hk.segs s.s (List.mem_of_getElem? (abs_seg hs))
      have hpl := segA_len (memA_seg hh hs)
      obtain ⟨lt, hlt⟩ : ∃ l, s.s.dat[tt]? = some l := ⟨_, List.getElem?_eq_getElem (show tt < s.s.dat.length by omega)⟩
      obtain ⟨lf, hlf⟩ : ∃ l, s.s.dat[fr]? = some l := ⟨_, List.getElem?_eq_getElem (show fr < s.s.dat.length by omega)⟩
      obtain ⟨vt, hvt⟩ : ∃ v, s.pgs[tt]? = some v := ⟨_, List.getElem?_eq_getElem (show tt < s.pgs.length by omega)⟩
      obtain ⟨vf, hvf⟩ : ∃ v, s.pgs[fr]? = some v := ⟨_, List.getElem?_eq_getElem (show fr < s.pgs.length by omega)⟩
      obtain ⟨A, c, rfl, hc1, hc2, hc3⟩ := row_slice (bytesA_row (segA_page (memA_seg hh hs) hvt hlt))
      obtain ⟨A', c', rfl, hc1', hc2', hc3'⟩ := row_slice (bytesA_row (segA_page (memA_seg hh hs) hvf hlf))
      have hll := hso.len lt (List.mem_of_getElem? hlt)
      have hlf' := hso.len lf (List.mem_of_getElem? hlf)
      obtain ⟨E, e, hE, he1, he2, he3⟩ := row_slice (segA_row (memA_seg hh hs))
      obtain ⟨gE, rfl, _⟩ := he3 (by omega)
      have hl1 := hso.l1
      have hoctf := bytesA_oct (segA_page (memA_seg hh hs) hvf hlf)
      refine c_hp (fun w h => page_focus hs hvt hlt (h.pick [1] rfl)) ?_
      refine c_ex (fun w h => bytesA_open (i := 0) h rfl (by omega)) ?_
      rintro ⟨gt, junk⟩ ⟨rfl, hy2, hy3, hy4, hy5, hy6⟩
      refine a_begin mixed [starL ((segL s).set (3 + tt) emp)] 15 rfl (fun w h => h.pick [1] rfl) ?_
      have hC : ∀ {w}, (starL ((segL s).set (3 + tt) emp)).C w → (blk s.b [s.pv, .int .i64 s.s.s0, .int .i64 s.s.s1] 96).C w := fun h => starL_get h (i := 0) (by rw [List.getElem?_set_ne (by omega)]; rfl)
      have hR : ∀ {w}, (starL ((segL s).set (3 + tt) emp)).C w → (row 37 1 s.pv s.pgs.length s.pgs).C w := fun h => starL_get h (i := 1) (by rw [List.getElem?_set_ne (by omega)]; rfl)
      have d1 : ∀ w', St (fps [memA p m]) w [starL ((segL s).set (3 + tt) emp)] w' → w'.cell? ⟨s.b, 0, none⟩ = some (.slice (some ⟨gE, 0, none⟩) s.pgs.length e) := fun w' h => by
        rw [← hE]; exact blk_cell (hC (h.get (i := 0) rfl)) rfl
      have d2 : ∀ w', St (fps [memA p m]) w [starL ((segL s).set (3 + tt) emp)] w' → w'.cell? ⟨gE, 0 + ((tt : Nat) : Int).toNat, none⟩ = some (.slice (some ⟨gt, 0, none⟩) lt.length c) := fun w' h => by
        have h1 := hR (h.get (i := 0) rfl)
        rw [hE] at h1
        exact row_cells h1 rfl _ _ hvt
      have d3 : ∀ w', St (fps [memA p m]) w [starL ((segL s).set (3 + tt) emp)] w' → w'.cell? ⟨gE, 0 + ((fr : Nat) : Int).toNat, none⟩ = some (.slice A' lf.length c') := fun w' h => by
        have h1 := hR (h.get (i := 0) rfl)
        rw [hE] at h1
        exact row_cells h1 rfl _ _ hvf
      unfold maxLen at he2
      ((refine a_q 0 rfl rfl rfl rfl rfl (by decide +kernel) (q_move rfl) ?_; refine a_q 1 rfl rfl rfl rfl rfl (by decide +kernel) (by (exact q_nilck rfl)) ?_; refine a_q 2 rfl rfl rfl rfl rfl (by decide +kernel) (by (exact q_fieldAddr tab rfl rfl rfl rfl rfl rfl rfl)) ?_; (refine a_q 3 rfl rfl rfl rfl rfl (by decide +kernel) (by (exact q_load tab rfl rfl rfl d1)) ?_); refine a_q 4 rfl rfl rfl rfl rfl (by decide +kernel) (q_move rfl) ?_; refine a_q 5 rfl rfl rfl rfl rfl (by decide +kernel) (by (exact q_indexAddr1 tab rfl rfl rfl rfl (by omega))) ?_; (refine a_q 6 rfl rfl rfl rfl rfl (by decide +kernel) (by (exact q_load tab rfl rfl rfl d2)) ?_); refine a_q 7 rfl rfl rfl rfl rfl (by decide +kernel) (q_move rfl) ?_; refine a_q 8 rfl rfl rfl rfl rfl (by decide +kernel) (by (exact q_nilck rfl)) ?_; refine a_q 9 rfl rfl rfl rfl rfl (by decide +kernel) (by (exact q_fieldAddr tab rfl rfl rfl rfl rfl rfl rfl)) ?_; (refine a_q 10 rfl rfl rfl rfl rfl (by decide +kernel) (by (exact q_load tab rfl rfl rfl d1)) ?_); refine a_q 11 rfl rfl rfl rfl rfl (by decide +kernel) (q_move rfl) ?_; refine a_q 12 rfl rfl rfl rfl rfl (by decide +kernel) (by (exact q_indexAddr1 tab rfl rfl rfl rfl (by omega))) ?_; (refine a_q 13 rfl rfl rfl rfl rfl (by decide +kernel) (by (exact q_load tab rfl rfl rfl d3)) ?_)))
      have hsrc : ∀ w', St (fps [memA p m]) w [blk gt (bv lt ++ junk) 5, starL ((segL s).set (3 + tt) emp), starL ((memL p m).set (3 + seg.toNat) emp)] w' → SrcAt w' A' lf.length (bv lf) := fun w' h => by
        by_cases hft : fr = tt
        · subst hft
          rw [hvf] at hvt
          injection hvt with hvt
          injection hvt with hA _ _
          rw [hlf] at hlt
          injection hlt with hlt
          subst hlt
          rw [hA]
          refine ⟨length_bv _, fun _ => ⟨gt, 0, rfl, fun j u hu => ?_⟩⟩
          rw [Nat.zero_add]
          refine blk_cell (h.get (i := 0) rfl) ?_
          rw [List.getElem?_append_left (List.getElem?_eq_some_iff.1 hu).1]
          exact hu
        · have h1 : (starL ((segL s).set (3 + tt) emp)).C w' := h.get (i := 1) rfl
          have h2 : (bytesA (.slice A' lf.length c') lf).C w' := starL_get h1 (i := 3 + fr) (by
            rw [List.getElem?_set_ne (by omega)]
            exact segL_page hvf hlf)
          have := row_src (bytesA_row h2)
          simpa using this
      refine a_hp (hp' := [blk gt (bv lt ++ junk) 5, starL ((segL s).set (3 + tt) emp), starL ((memL p m).set (3 + seg.toNat) emp)]) (fun w h => h.pick [0, 1, 2] rfl) (fun w h => h.pick [1] rfl) ?_
      refine a_e 14 rfl (by decide +kernel) rfl (fun K hK => e_copy tab (i := 0) (news := bv lf) rfl rfl rfl rfl rfl rfl ?_ hsrc (bv_one lf) (hK _ _ (fun w h => h.pick [1] rfl) ?_))
      · dsimp only at hy5
        rw [hy5]
        omega
      clear hK
      refine a_done (by decide +kernel) ?_
      have hset : setAt (bv lt ++ junk) 0 (List.take (min lf.length lt.length) (bv lf)) = bv lf ++ junk := by
        have e1 : spl lt 0 lf = lf := by simp [spl, List.drop_eq_nil_of_le (show lt.length ≤ lf.length by omega)]
        rw [List.take_of_length_le (by simp; omega), setAt_bv (by omega), e1]
      rw [hset]
      refine t_hp (hp' := [memA p { m with segs := m.segs.set seg.toNat (s.put tt lf) }]) (fun w h => page_unfocus (F := []) lf hs hvt hlt ?_) ?_
      · refine h.see (i := 0) rfl (fun h => ?_) (fun b hb => ?_)
        · have := bytesA_shut (c := c) h hoctf (by dsimp only at hy5; rw [← hy5]; simp; omega) hy4
          rw [hlf', ← hll] at this
          exact this
        · exact blk_S (bytesA_S hb)
      (repeat (first | (refine i_dst ?_; ((refine i_assign ?_; refine l_q rfl rfl rfl (q_assign rfl) ?_))) | refine c_seq (fun K hK => ?_) | refine c_region ?_ | refine l_nil ?_ | refine t_then ?_ | (refine i_k ?_; (((refine hK _ _ ?_; clear hK)))) | refine c_ret ?_))
      refine t_ret1 Try.results28 rfl ⟨_, rfl, ?_, ?_⟩
      · rw [copyM, ht]
        simp [MemV.abs, List.map_set, SegV.put, h0, List.getD_eq_getElem?_getD, hlf]
      · rw [copyM, ht]
        simp [h0]
  · rw [hv]
    have e1 : copyM m.abs seg from_ to = (m.abs, 82) := by rw [copyM, ht]
    (repeat (first | (refine i_dst ?_; (first | (refine i_move ?_; refine l_q rfl rfl rfl (q_move rfl) ?_) | (refine i_assign ?_; refine l_q rfl rfl rfl (q_assign rfl) ?_) | (refine i_bin ?_; refine l_q rfl rfl rfl (by (exact q_eqnil tab rfl rfl rfl)) ?_))) | refine c_seq (fun K hK => ?_) | refine c_region ?_ | refine l_nil ?_ | refine t_then ?_ | (refine i_k ?_; (((refine hK _ _ ?_; clear hK)))) | refine c_block ?_ | (refine i_q ?_; (first | refine t_then_ret ?_ | refine t_block_ret ?_)) | refine c_ret ?_ | (refine i_cond ?_; (refine c_ct rfl (by (rfl)) ?_))))
    exact t_hp (hp' := [memA p m]) (fun w h => h.pick [1] rfl) (t_ret1 Try.results28 rfl ⟨m, rfl, by rw [e1], by rw [e1]⟩)
end
end Go.Proofs.Ytecnodkjjpjglaa

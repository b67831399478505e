/-
  The reference's memory (layer 8): what lies there, and its area, Read, Page and there, walked.
-/
import Derived.Test.YtkeekkdaielipaaI2
set_option linter.unusedVariables false
set_option maxRecDepth 100000
namespace Go.Proofs.Ytkeekkdaielipaa
open Go.RowKit
attribute [local irreducible] TL TC TQ TK TO Qt TA


/-- The reference's memory: its slices (field b of a segment is not used), and the row of what is seen. -/
structure RefV where
  m : MemV
  ev : Value
def RefV.abs (x : RefV) : Mm := x.m.abs
def sees (l : List SegV) : List Value := l.flatMap fun s => [.int .i64 s.s.s0, .int .i64 s.s.s1]
def rsegA (s : SegV) : Asn := starL [row 23 1 s.pv s.pgs.length s.pgs, pureA (s.pgs.length = s.s.dat.length), starL (List.zipWith bytesA s.pgs s.s.dat)]
def refL (q : Nat) (x : RefV) : List Asn := [blk q [x.m.rv, x.m.sv, x.ev] 97, bytesA x.m.rv x.m.ram, row 30 1 x.m.sv x.m.segs.length (x.m.segs.map (·.pv)), row 43 2 x.ev x.m.segs.length (sees x.m.segs), starL (x.m.segs.map rsegA)]
def refA (q : Nat) (x : RefV) : Asn := starL (refL q x)
theorem length_sees (l : List SegV) : (sees l).length = l.length * 2 := by
  induction l with
  | nil => rfl
  | cons x l ih => simp only [sees, List.flatMap_cons, List.length_append, List.length_cons, List.length_nil] at ih ⊢; omega
/-! ### Parts that stay -/
section
variable {S : Nat → Prop} {w0 : World} {q : Nat} {x : RefV} {s : SegV}
theorem Ro.refBlk (h : Ro S w0 (refA q x)) : Ro S w0 (blk q [x.m.rv, x.m.sv, x.ev] 97) := Ro.star h (i := 0) rfl
theorem Ro.refRam (h : Ro S w0 (refA q x)) : Ro S w0 (bytesA x.m.rv x.m.ram) := Ro.star h (i := 1) rfl
theorem Ro.refRow (h : Ro S w0 (refA q x)) : Ro S w0 (row 30 1 x.m.sv x.m.segs.length (x.m.segs.map (·.pv))) := Ro.star h (i := 2) rfl
theorem Ro.refSee (h : Ro S w0 (refA q x)) : Ro S w0 (row 43 2 x.ev x.m.segs.length (sees x.m.segs)) := Ro.star h (i := 3) rfl
theorem Ro.refSeg (h : Ro S w0 (refA q x)) {k : Nat} (hk : x.m.segs[k]? = some s) : Ro S w0 (rsegA s) := Ro.star (Ro.star h (i := 4) rfl) (i := k) (by simp [hk])
theorem Ro.rsegRow (h : Ro S w0 (rsegA s)) : Ro S w0 (row 23 1 s.pv s.pgs.length s.pgs) := Ro.star h (i := 0) rfl
theorem Ro.rsegLen (h : Ro S w0 (rsegA s)) : s.pgs.length = s.s.dat.length := (Ro.star h (i := 1) (X := pureA (s.pgs.length = s.s.dat.length)) rfl).is
theorem Ro.rsegPage (h : Ro S w0 (rsegA s)) {i : Nat} {v : Value} {l : List Int} (hv : s.pgs[i]? = some v) (hl : s.s.dat[i]? = some l) : Ro S w0 (bytesA v l) := Ro.star (Ro.star h (i := 2) rfl) (i := i) (by simp [List.getElem?_zipWith, hv, hl])
end
/-- The page that somebody sees. -/
theorem see_is {x : RefV} {who k : Nat} {s : SegV} (hk : MmOk x.abs) (hs : x.m.segs[k]? = some s) (hl : s.pgs.length = s.s.dat.length) : ∃ j v l, j = (if who = 1 then s.s.s0 else s.s.s1) ∧ s.pgs[j]? = some v ∧ s.s.dat[j]? = some l ∧ areaV x.m who (k + 1) = some (v, l, decide (j = 0)) ∧ areaM x.abs who (k + 1) = some (l, decide (j = 0)) ∧ l.length ≤ 256 := by
  have hso := hk.segs s.s (List.mem_of_getElem? (abs_seg hs))
  obtain ⟨j, hj, hj1⟩ : ∃ j : Nat, j = (if who = 1 then s.s.s0 else s.s.s1) ∧ j < s.s.dat.length := ⟨_, rfl, by have := hso.h0; have := hso.h1; split <;> omega⟩
  obtain ⟨l, hl'⟩ : ∃ l, s.s.dat[j]? = some l := ⟨_, List.getElem?_eq_getElem hj1⟩
  obtain ⟨v, hv⟩ : ∃ v, s.pgs[j]? = some v := ⟨_, List.getElem?_eq_getElem (by omega)⟩
  refine ⟨j, v, l, hj, hv, hl', ?_, ?_, by have := hso.len l (List.mem_of_getElem? hl'); have := hso.l2; omega⟩
  · rw [areaV, if_neg (by omega), Nat.add_sub_cancel, hs]
    simp only [← hj, hv, hl']
  · show areaM x.m.abs who (k + 1) = _
    rw [areaM, if_neg (by omega), Nat.add_sub_cancel, abs_seg hs]
    simp only [← hj, hl']
def rAreaV (x : RefV) (who area : Nat) : Value := match areaV x.m who area with
  | some (v, _, f) => .tuple #[v, .bool f, .bool true]
  | none => .tuple #[.slice none 0 0, .bool false, .bool false]
theorem sees_get {l : List SegV} {k : Nat} {s : SegV} (h : l[k]? = some s) : (sees l)[k * 2]? = some (.int .i64 s.s.s0) ∧ (sees l)[k * 2 + 1]? = some (.int .i64 s.s.s1) :=
  ⟨flat_get (s := 2) (k := 0) (fun _ => rfl) h rfl, flat_get (s := 2) (k := 1) (fun _ => rfl) h rfl⟩
attribute [local irreducible] blk row bytesA starL memA segA roB

attribute [local irreducible] refA rsegA sees

set_option maxHeartbeats 4000000 in
theorem rarea_spec {q : Nat} {x : RefV} {w : World} (hm : Ro (fps []) w (refA q x)) (hk : MmOk x.abs) (who area : Nat) (hw : who = 1 ∨ who = 2) (ha : area ≤ 255) :
    Calls Try.prog 59 #[.pointer (some ⟨q, 0, none⟩), .int .u8 who, .int .u8 area] w (Ret w [] fun v B => v = rAreaV x who area ∧ B = []) := by
  obtain ⟨⟨rv, ram, sv, segs⟩, ev⟩ := x
  refine enter (vs := [.pointer (some ⟨q, 0, none⟩), .int .u8 who, .int .u8 area]) Try.func59 rfl Try.ntmps59 rfl (Hold.nil w) ?_
  obtain ⟨A, c, e1, hc1, hc2, -⟩ := row_slice hm.refRow.is
  obtain ⟨E, d, e2, hd1, hd2, -⟩ := row_slice hm.refSee.is
  dsimp only at e1 e2
  subst e1 e2
  have hb := hm.refBlk
  have hrow := hm.refRow.rowV1
  have hsee := hm.refSee.rowV
  have hn4 : segs.length ≤ 4 := by have := hk.n4; simpa [RefV.abs, MemV.abs] using this
  dsimp only at hb hrow hsee
  have hmx : maxLen = 2 ^ 63 - 1 := rfl
  by_cases h0 : area = 0
  · subst h0
    (repeat (first | (refine i_dst ?_; (first | (refine i_move ?_; refine l_q rfl rfl rfl (q_move rfl) ?_) | (refine i_assign ?_; refine l_q rfl rfl rfl (q_assign rfl) ?_) | (refine i_load ?_; refine l_q rfl rfl rfl (by (exact q_ldRo tab rfl rfl rfl (by assumption) rfl)) ?_) | (refine i_bin ?_; refine l_q rfl rfl rfl (by (exact q_eql rfl rfl)) ?_) | (refine l_q rfl rfl rfl (by (first | (apply iq_fld; (exact q_fieldAddr tab rfl rfl rfl rfl rfl rfl rfl)) | (apply iq_nck; (exact q_nilck rfl)))) ?_))) | refine d_seq ?_ | refine c_region ?_ | refine l_nil ?_ | (refine i_q ?_; (first | refine d_then ?_ | refine d_then_ret ?_)) | refine c_ret ?_ | (refine i_cond ?_; (refine c_ct rfl (by (rfl)) ?_))))
    exact t_ret3 Try.results59 rfl rfl rfl ⟨rfl, rfl⟩
  · obtain ⟨k, rfl⟩ : ∃ k, area = k + 1 := ⟨area - 1, by omega⟩
    by_cases hks : k < segs.length
    · obtain ⟨s, hs⟩ : ∃ s, segs[k]? = some s := ⟨_, List.getElem?_eq_getElem hks⟩
      have hsR := hm.refSeg hs
      have hpl := hsR.rsegLen
      obtain ⟨j, v, l, hj, hv, hl, e5, e6, _⟩ := see_is (x := ⟨⟨_, _, _, segs⟩, _⟩) (who := who) hk hs hpl
      obtain ⟨A2, c2, e3, hp1, hp2, -⟩ := row_slice hsR.rsegRow.is
      have hpr := hsR.rsegRow
      rw [e3] at hpr
      have hpr' := hpr.rowV1
      have hvk : (segs.map (·.pv))[k]? = some (.slice A2 s.pgs.length c2) := by simp [hs, e3]
      obtain ⟨f1, f2⟩ := sees_get hs
      have hjl : j < s.pgs.length := (List.getElem?_eq_some_iff.1 hv).1
      have hkn : (((k + 1 : Nat) : Int) - 1).toNat = k := by omega
      have hvk' : (segs.map (·.pv))[(((k + 1 : Nat) : Int) - 1).toNat]? = some (.slice A2 s.pgs.length c2) := by rw [hkn]; exact hvk
      have hse : (sees segs)[(((k + 1 : Nat) : Int) - 1).toNat * 2 + (((who : Nat) : Int) - 1).toNat]? = some (.int .i64 (j : Int)) := by
        rw [hkn, hj]
        rcases hw with rfl | rfl
        · exact f1
        · exact f2
      have hp4 : s.pgs.length ≤ 4 := by have := (hk.segs s.s (List.mem_of_getElem? (abs_seg (m := ⟨rv, ram, .slice A segs.length c, segs⟩) hs))).n4; omega
      clear hvk f1 f2


      (repeat (first | (refine i_dst ?_; (first | (refine i_move ?_; refine l_q rfl rfl rfl (q_move rfl) ?_) | (refine i_assign ?_; refine l_q rfl rfl rfl (q_assign rfl) ?_) | (refine i_load ?_; refine l_q rfl rfl rfl (by (first | exact q_ldRo tab rfl rfl rfl (by assumption) rfl | exact q_ldS tab rfl rfl rfl (by (exact fun w h => roV_src (h.ro (by assumption)))) (by (assumption)))) ?_) | (refine i_bin ?_; refine l_q rfl rfl rfl (by (first | exact q_eql rfl rfl | exact q_geq rfl rfl | exact q_sub rfl rfl (by (first | exact wr_i64 (by omega) | exact wr_u8 (by omega))))) ?_) | (refine i_blt ?_; refine l_q rfl rfl rfl (by (exact q_len tab rfl rfl)) ?_) | (refine i_ix ?_; refine l_q rfl rfl rfl (by (first | exact q_ixS1 tab rfl rfl rfl rfl (by (exact fun w h => roV_src (h.ro (by assumption)))) (by first | (with_reducible exact Int.toNat_natCast _) | (with_reducible exact Int.toNat_zero) | (with_reducible exact Int.toNat_one) | rfl) (by (omega)) (by (omega)) | exact q_ixSN tab rfl rfl rfl rfl (by (exact fun w h => roV_src (h.ro (by assumption)))) (by first | (with_reducible exact Int.toNat_natCast _) | (with_reducible exact Int.toNat_zero) | (with_reducible exact Int.toNat_one) | rfl) (by (omega)) (by (omega)))) ?_) | (refine l_q rfl rfl rfl (by (first | (apply iq_fld; (exact q_fieldAddr tab rfl rfl rfl rfl rfl rfl rfl)) | (apply iq_nck; (exact q_nilck rfl)) | (apply iq_cv; (exact q_conv tab rfl rfl rfl (by (exact wr_i64 (by omega))))))) ?_))) | refine d_seq ?_ | refine c_region ?_ | refine l_nil ?_ | (refine i_q ?_; (refine d_then ?_)) | refine c_skip ?_ | refine c_ret ?_ | (refine i_cond ?_; (refine c_cf rfl (by (first | rfl | exact decide_eq_false (by omega))) ?_)) | (refine i_dst ?_; refine i_ix ?_; refine l_q rfl rfl rfl (by (exact q_ixAS1 tab rfl rfl rfl rfl (by (exact fun w h => roV_src (h.ro (by assumption)))) (by first | (with_reducible exact Int.toNat_natCast _) | (with_reducible exact Int.toNat_zero) | (with_reducible exact Int.toNat_one) | rfl) (by (omega)) (by (omega)))) ?_)))

      refine t_ret3 Try.results59 rfl rfl rfl ⟨?_, rfl⟩
      have e7 : areaV ⟨rv, ram, .slice A segs.length c, segs⟩ who (k + 1) = some (v, l, decide (j = 0)) := e5
      simp only [rAreaV, e7]
      congr 3
      simp
    · have e5 : areaV ⟨rv, ram, .slice A segs.length c, segs⟩ who (k + 1) = none := by
        rw [areaV, if_neg (by omega), Nat.add_sub_cancel, List.getElem?_eq_none (by show segs.length ≤ k; omega)]
      (repeat (first | (refine i_dst ?_; (first | (refine i_move ?_; refine l_q rfl rfl rfl (q_move rfl) ?_) | (refine i_assign ?_; refine l_q rfl rfl rfl (q_assign rfl) ?_) | (refine i_load ?_; refine l_q rfl rfl rfl (by (exact q_ldRo tab rfl rfl rfl (by assumption) rfl)) ?_) | (refine i_bin ?_; refine l_q rfl rfl rfl (by (first | exact q_eql rfl rfl | exact q_geq rfl rfl | exact q_sub rfl rfl (by (exact wr_i64 (by omega))))) ?_) | (refine i_blt ?_; refine l_q rfl rfl rfl (by (exact q_len tab rfl rfl)) ?_) | (refine l_q rfl rfl rfl (by (first | (apply iq_fld; (exact q_fieldAddr tab rfl rfl rfl rfl rfl rfl rfl)) | (apply iq_nck; (exact q_nilck rfl)) | (apply iq_cv; (exact q_conv tab rfl rfl rfl (by (exact wr_i64 (by omega))))))) ?_))) | refine d_seq ?_ | refine c_region ?_ | refine l_nil ?_ | (refine i_q ?_; (first | refine d_then ?_ | refine d_then_ret ?_)) | refine c_skip ?_ | refine c_ret ?_ | (refine i_cond ?_; (first | refine c_ct rfl (by (exact decide_eq_true (by omega))) ?_ | refine c_cf rfl (by (rfl)) ?_))))
      exact t_ret3 Try.results59 rfl rfl rfl ⟨by simp only [rAreaV, e5], rfl⟩
/-- The area as both tell it. -/
theorem areaV_ref {q : Nat} {x : RefV} {who area : Nat} {w : World} (h : (refA q x).C w) (hk : MmOk x.abs) : (∃ v l f, areaV x.m who area = some (v, l, f) ∧ areaM x.abs who area = some (l, f) ∧ Ro (fps []) w (bytesA v l) ∧ l.length ≤ 1024) ∨ (areaV x.m who area = none ∧ areaM x.abs who area = none) := by
  have hm : Ro (fps []) w (refA q x) := Ro.empty h
  by_cases h0 : area = 0
  · subst h0
    exact .inl ⟨_, _, _, rfl, rfl, hm.refRam, hk.ram⟩
  · obtain ⟨k, rfl⟩ : ∃ k, area = k + 1 := ⟨area - 1, by omega⟩
    by_cases hks : k < x.m.segs.length
    · obtain ⟨s, hs⟩ : ∃ s, x.m.segs[k]? = some s := ⟨_, List.getElem?_eq_getElem hks⟩
      have hsR := hm.refSeg hs
      obtain ⟨j, v, l, hj, hv, hl, e5, e6, e7⟩ := see_is (who := who) hk hs hsR.rsegLen
      exact .inl ⟨v, l, _, e5, e6, hsR.rsegPage hv hl, by omega⟩
    · right
      refine ⟨by rw [areaV, if_neg (by omega), Nat.add_sub_cancel, List.getElem?_eq_none (by omega)], ?_⟩
      show areaM x.m.abs who (k + 1) = none
      rw [areaM, if_neg (by omega), Nat.add_sub_cancel, List.getElem?_eq_none (by simp [MemV.abs]; omega)]

set_option maxHeartbeats 4000000 in
theorem rread_spec {q : Nat} {x : RefV} {w : World} (hm : Ro (fps []) w (refA q x)) (hk : MmOk x.abs) (who area : Nat) (at_ n : Int) (hw : who ≤ 255) (ha : area ≤ 255) (hn : -9223372036854775808 ≤ n ∧ n ≤ 9223372036854775807) (ha0 : 0 ≤ at_) (ha1 : at_ ≤ 4294967295) :
    Calls Try.prog 60 #[.pointer (some ⟨q, 0, none⟩), .int .u8 who, .int .u8 area, .int .u32 at_, .int .i64 n] w (Ret w [] fun v B => ∃ A c, v = .tuple #[.slice A (readM x.abs who area at_ n).1.length c, .int .i64 (readM x.abs who area at_ n).2] ∧ B = [bytesA (.slice A (readM x.abs who area at_ n).1.length c) (readM x.abs who area at_ n).1]) := by
  refine enter (vs := [.pointer (some ⟨q, 0, none⟩), .int .u8 who, .int .u8 area, .int .u32 at_, .int .i64 n]) Try.func60 rfl Try.ntmps60 rfl (Hold.nil w) ?_
  by_cases h1 : (who ≠ 1 ∧ who ≠ 2) ∨ n < 0
  · have e1 : readM x.abs who area at_ n = ([], 1) := by rw [readM, if_pos h1]
    rw [e1]
    rcases (by omega : who < 1 ∨ who > 2 ∨ n < 0) with h2 | h2 | h2
    all_goals
      by_cases h3 : who < 1
      · (repeat (first | (refine i_dst ?_; (first | (refine i_move ?_; refine l_q rfl rfl rfl (q_move rfl) ?_) | (refine i_assign ?_; refine l_q rfl rfl rfl (q_assign rfl) ?_) | (refine i_bin ?_; refine l_q rfl rfl rfl (by (first | exact q_lss rfl rfl | exact q_gtr rfl rfl)) ?_) | refine l_q rfl rfl rfl (by (first | exact q_pick_t rfl rfl | exact q_pick_f rfl rfl)) ?_)) | refine d_seq ?_ | refine c_region ?_ | refine l_nil ?_ | (refine i_q ?_; (first | refine d_then ?_ | refine d_then_ret ?_)) | refine c_ret ?_ | (refine i_guard ?_; (first | refine l_gt rfl rfl rfl ?_ | refine l_gf rfl rfl rfl rfl rfl rfl ?_ | (refine l_gtd rfl rfl rfl (by ((simp; omega))) ?_) | (refine l_gfd rfl rfl rfl (by ((simp; omega))) rfl rfl ?_))) | (refine i_cond ?_; (refine c_ct rfl (by (first | rfl | exact decide_eq_true (by omega))) ?_))))
        exact t_hp (fun w h => st_nilB h) (t_ret2 Try.results60 rfl rfl ⟨none, 0, rfl, rfl⟩)
      · by_cases h4 : who > 2
        · (repeat (first | (refine i_dst ?_; (first | (refine i_move ?_; refine l_q rfl rfl rfl (q_move rfl) ?_) | (refine i_assign ?_; refine l_q rfl rfl rfl (q_assign rfl) ?_) | (refine i_bin ?_; refine l_q rfl rfl rfl (by (first | exact q_lss rfl rfl | exact q_gtr rfl rfl)) ?_) | refine l_q rfl rfl rfl (by (first | exact q_pick_t rfl rfl | exact q_pick_f rfl rfl)) ?_)) | refine d_seq ?_ | refine c_region ?_ | refine l_nil ?_ | (refine i_q ?_; (first | refine d_then ?_ | refine d_then_ret ?_)) | refine c_ret ?_ | (refine i_guard ?_; (first | refine l_gt rfl rfl rfl ?_ | refine l_gf rfl rfl rfl rfl rfl rfl ?_ | (refine l_gtd rfl rfl rfl (by ((simp; omega))) ?_) | (refine l_gfd rfl rfl rfl (by ((simp; omega))) rfl rfl ?_))) | (refine i_cond ?_; (refine c_ct rfl (by (first | rfl | exact decide_eq_true (by omega))) ?_))))
          exact t_hp (fun w h => st_nilB h) (t_ret2 Try.results60 rfl rfl ⟨none, 0, rfl, rfl⟩)
        · (repeat (first | (refine i_dst ?_; (first | (refine i_move ?_; refine l_q rfl rfl rfl (q_move rfl) ?_) | (refine i_assign ?_; refine l_q rfl rfl rfl (q_assign rfl) ?_) | (refine i_bin ?_; refine l_q rfl rfl rfl (by (first | exact q_lss rfl rfl | exact q_gtr rfl rfl)) ?_) | refine l_q rfl rfl rfl (by (exact q_pick_f rfl rfl)) ?_)) | refine d_seq ?_ | refine c_region ?_ | refine l_nil ?_ | (refine i_q ?_; (first | refine d_then ?_ | refine d_then_ret ?_)) | refine c_ret ?_ | (refine i_guard ?_; (first | refine l_gt rfl rfl rfl ?_ | (refine l_gtd rfl rfl rfl (by ((simp; omega))) ?_))) | (refine i_cond ?_; (refine c_ct rfl (by (exact decide_eq_true (by omega))) ?_))))
          exact t_hp (fun w h => st_nilB h) (t_ret2 Try.results60 rfl rfl ⟨none, 0, rfl, rfl⟩)
  · have hw12 : who = 1 ∨ who = 2 := by omega
    (repeat (first | (refine i_dst ?_; (first | (refine i_move ?_; refine l_q rfl rfl rfl (q_move rfl) ?_) | (refine i_assign ?_; refine l_q rfl rfl rfl (q_assign rfl) ?_) | (refine i_bin ?_; refine l_q rfl rfl rfl (by (first | exact q_lss rfl rfl | exact q_gtr rfl rfl)) ?_) | refine l_q rfl rfl rfl (by (exact q_pick_f rfl rfl)) ?_)) | refine d_seq ?_ | refine c_region ?_ | refine l_nil ?_ | (refine i_q ?_; (refine d_then ?_)) | refine c_skip ?_ | (refine i_guard ?_; (first | refine l_gt rfl rfl rfl ?_ | (refine l_gtd rfl rfl rfl (by ((simp; omega))) ?_))) | (refine i_cond ?_; (refine c_cf rfl (by (exact decide_eq_false (by omega))) ?_))))
    (refine l_call0 rfl rfl Try.func59 rfl (by decide) (fun w' h => rarea_spec (roOf0 h hm) hk who area hw12 ha) (fun v B hv => ?_); obtain ⟨rfl, rfl⟩ := hv)
    rcases areaV_ref (who := who) (area := area) hm.is hk with ⟨v, l, f, h2, h3, h4, h9⟩ | ⟨h2, h3⟩
    · obtain ⟨A, c, rfl, hc, hcm, -⟩ := bytesA_ro h4.is
      have h5 := h4.bytes
      have h5' : Ro (fps []) w (roB A l.length l) := h5
      have hmx : maxLen = 2 ^ 63 - 1 := rfl
      rw [rAreaV, h2]
      dsimp only
      by_cases hb : n > l.length ∨ at_ > l.length - n
      · have e1 : readM x.abs who area at_ n = ([], 80) := by rw [readM, if_neg h1, h3]; exact if_pos hb
        rw [e1]
        by_cases h6 : n > l.length
        · (repeat (first | (refine i_dst ?_; (first | (refine i_move ?_; refine l_q rfl rfl rfl (q_move rfl) ?_) | (refine i_assign ?_; refine l_q rfl rfl rfl (q_assign rfl) ?_) | (refine i_bin ?_; refine l_q rfl rfl rfl (by (exact q_gtr rfl rfl)) ?_) | (refine i_blt ?_; refine l_q rfl rfl rfl (by (exact q_len tab rfl rfl)) ?_) | refine l_q rfl rfl rfl (by (first | exact q_extract rfl rfl | exact q_not rfl | exact q_pick_t rfl rfl | exact q_pick_f rfl rfl)) ?_)) | refine d_seq ?_ | refine c_region ?_ | refine l_nil ?_ | (refine i_q ?_; (first | refine d_then ?_ | refine d_then_ret ?_)) | refine c_ret ?_ | (refine i_guard ?_; (first | refine l_gt rfl rfl rfl ?_ | refine l_gf rfl rfl rfl rfl rfl rfl ?_ | (refine l_gfd rfl rfl rfl (by ((simp; omega))) rfl rfl ?_))) | (refine i_cond ?_; (refine c_ct rfl (by (rfl)) ?_))))
          exact t_hp (fun w h => st_nilB h) (t_ret2 Try.results60 rfl rfl ⟨none, 0, rfl, rfl⟩)
        · (repeat (first | (refine i_dst ?_; (first | (refine i_move ?_; refine l_q rfl rfl rfl (q_move rfl) ?_) | (refine i_assign ?_; refine l_q rfl rfl rfl (q_assign rfl) ?_) | (refine i_bin ?_; refine l_q rfl rfl rfl (by (first | exact q_gtr rfl rfl | exact q_sub rfl rfl (by (exact wr_i64 (by omega))))) ?_) | (refine i_blt ?_; refine l_q rfl rfl rfl (by (exact q_len tab rfl rfl)) ?_) | (refine l_q rfl rfl rfl (by (first | exact q_extract rfl rfl | (apply iq_cv; (exact q_conv tab rfl rfl rfl (by (exact wr_i64 (by omega))))) | exact q_not rfl | exact q_pick_f rfl rfl)) ?_))) | refine d_seq ?_ | refine c_region ?_ | refine l_nil ?_ | (refine i_q ?_; (first | refine d_then ?_ | refine d_then_ret ?_)) | refine c_ret ?_ | (refine i_guard ?_; (first | refine l_gt rfl rfl rfl ?_ | (refine l_gtd rfl rfl rfl (by ((simp; omega))) ?_))) | (refine i_cond ?_; (refine c_ct rfl (by (exact decide_eq_true (by omega))) ?_))))
          exact t_hp (fun w h => st_nilB h) (t_ret2 Try.results60 rfl rfl ⟨none, 0, rfl, rfl⟩)
      · have e1 : readM x.abs who area at_ n = ((l.drop at_.toNat).take n.toNat, 0) := by rw [readM, if_neg h1, h3]; exact if_neg hb
        rw [e1]
        have hcut := roB_cut (a := at_.toNat) (k := n.toNat) h5.is hc (by omega)
        have hlen := roB_len hcut
        dsimp only
        rw [hlen]
        (repeat (first | (refine i_dst ?_; (first | (refine i_move ?_; refine l_q rfl rfl rfl (q_move rfl) ?_) | (refine i_assign ?_; refine l_q rfl rfl rfl (q_assign rfl) ?_) | (refine i_bin ?_; refine l_q rfl rfl rfl (by (first | exact q_gtr rfl rfl | exact q_add rfl rfl (by (first | exact wr_i64 (by omega) | rfl)) | exact q_sub rfl rfl (by (exact wr_i64 (by omega))))) ?_) | (refine i_blt ?_; refine l_q rfl rfl rfl (by (exact q_len tab rfl rfl)) ?_) | (refine i_sl ?_; refine l_q rfl rfl rfl (by (exact q_slLH tab rfl rfl rfl rfl rfl (by first | (with_reducible exact Int.toNat_natCast _) | (with_reducible exact Int.toNat_zero) | (with_reducible exact Int.toNat_one) | rfl) (by first | (with_reducible exact Int.toNat_natCast _) | (with_reducible exact Int.toNat_zero) | (with_reducible exact Int.toNat_one) | rfl) (by (omega)))) ?_) | (refine i_bldS ?_; refine l_bldS tab rfl rfl rfl rfl (by first | exact CellsOf.agg | exact CellsOf.one rfl) (by first | ((repeat (first | exact RepR.zero | exact AppR.nil | apply RepR.succ | apply AppR.cons)); done) | fail) (by first | ((repeat (first | exact FillR.nil | exact LSets.nil | exact LSet.zero | exact CellsOf.agg | exact rfl | exact CellsOf.one rfl | apply FillR.cons | apply LSets.cons | apply LSet.succ)); done) | fail) (fun w => by kernel_rfl) (fun _ => ?_)) | (refine l_q rfl rfl rfl (by (first | exact q_extract rfl rfl | (apply iq_cv; (exact q_conv tab rfl rfl rfl (by (exact wr_i64 (by omega))))) | exact q_not rfl | exact q_pick_f rfl rfl)) ?_))) | refine d_seq ?_ | refine c_region ?_ | refine l_nil ?_ | (refine i_q ?_; (refine d_then ?_)) | refine c_skip ?_ | (refine i_guard ?_; (first | refine l_gt rfl rfl rfl ?_ | (refine l_gtd rfl rfl rfl (by ((simp; omega))) ?_))) | (refine i_cond ?_; (refine c_cf rfl (by (exact decide_eq_false (by omega))) ?_))))
        rename_i g3
        rw [show (at_ + n).toNat - at_.toNat = n.toNat by omega]
        refine l_hp (hp' := [row 5 1 (.slice (some ⟨g3, 0, none⟩) 0 0) 0 []]) (fun w h => row0_of h) ?_
        (refine l_app tab rfl rfl rfl rowB (by first | ((repeat (first | exact Ext.head | apply Ext.tail)); done) | fail) (news := bv ((l.drop at_.toNat).take n.toNat)) (fun w h => by rw [Nat.mul_one]; exact roB_src (roB_cut (h.ro h5') hc (by omega))) (bv_one _) (by omega) (by omega) (fun A3 c3 hA1 hA2 => ?_))
        rw [Nat.zero_add, List.nil_append]
        (repeat (first | (refine i_dst ?_; ((refine i_assign ?_; refine l_q rfl rfl rfl (q_assign rfl) ?_))) | refine l_nil ?_ | (refine i_q ?_; (refine d_then ?_)) | refine c_ret ?_))
        exact t_hp (hp' := [bytesA (.slice A3 n.toNat c3) ((l.drop at_.toNat).take n.toNat)]) (fun w h => h.see (i := 0) rfl (fun h => bytesA_of hlen (roB_oct hcut) h) (fun b hb => bytesA_rowS b hb)) (t_ret2 Try.results60 rfl rfl ⟨A3, c3, rfl, rfl⟩)
    · have e1 : readM x.abs who area at_ n = ([], 80) := by rw [readM, if_neg h1, h3]
      rw [rAreaV, h2, e1]
      dsimp only
      (repeat (first | (refine i_dst ?_; (first | (refine i_move ?_; refine l_q rfl rfl rfl (q_move rfl) ?_) | (refine i_assign ?_; refine l_q rfl rfl rfl (q_assign rfl) ?_) | refine l_q rfl rfl rfl (by (first | exact q_extract rfl rfl | exact q_not rfl | exact q_pick_t rfl rfl)) ?_)) | refine d_seq ?_ | refine c_region ?_ | refine l_nil ?_ | (refine i_q ?_; (first | refine d_then ?_ | refine d_then_ret ?_)) | refine c_ret ?_ | (refine i_guard ?_; (refine l_gf rfl rfl rfl rfl rfl rfl ?_)) | (refine i_cond ?_; (refine c_ct rfl (by (rfl)) ?_))))
      exact t_hp (fun w h => st_nilB h) (t_ret2 Try.results60 rfl rfl ⟨none, 0, rfl, rfl⟩)

end Go.Proofs.Ytkeekkdaielipaa

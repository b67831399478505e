/-
  Layer 8: mem.part, walked.
-/
import Derived.Test.YtidekbijkknlmaaM1
set_option linter.unusedVariables false
set_option maxRecDepth 100000
namespace Go.Proofs.Ytidekbijkknlmaa
open Go.RowKit
attribute [local irreducible] TL TC TQ TK TO Qt TA
/-- The area that somebody sees: its bytes, whether it is fixed. -/
def areaM (M : Mm) (who area : Nat) : Option (List Int × Bool) :=
  if area = 0 then some (M.ram, false)
  else match M.segs[area - 1]? with
    | none => none
    | some s =>
      match s.dat[if who = 1 then s.s0 else s.s1]? with
      | some l => some (l, decide ((if who = 1 then s.s0 else s.s1) = 0))
      | none => none
/-- The area that somebody sees: its slice, its bytes, whether it is fixed. -/
def areaV (m : MemV) (who area : Nat) : Option (Value × List Int × Bool) :=
  if area = 0 then some (m.rv, m.ram, false)
  else match m.segs[area - 1]? with
    | none => none
    | some s =>
      match s.pgs[if who = 1 then s.s.s0 else s.s.s1]?, s.s.dat[if who = 1 then s.s.s0 else s.s.s1]? with
      | some v, some l => some (v, l, decide ((if who = 1 then s.s.s0 else s.s.s1) = 0))
      | _, _ => none
/-- What part tells. -/
def partV (m : MemV) (who area : Nat) (at_ n : Int) : Value :=
  if (who ≠ 1 ∧ who ≠ 2) ∨ n < 0 then .tuple #[.slice none 0 0, .bool false, .int .i64 1]
  else match areaV m who area with
    | none => .tuple #[.slice none 0 0, .bool false, .int .i64 80]
    | some (v, l, f) =>
      if n > l.length ∨ at_ > l.length - n then .tuple #[.slice none 0 0, .bool false, .int .i64 80]
      else match v with
        | .slice A _ c => .tuple #[.slice (cutA A c at_.toNat 1) n.toNat (c - at_.toNat), .bool f, .int .i64 0]
        | _ => .tuple #[]

section
variable {p : Nat} {m : MemV} {w : World}
abbrev partArgs (p : Nat) (who area : Nat) (at_ n : Int) : List Value := [.pointer (some ⟨p, 0, none⟩), .int .u8 who, .int .u8 area, .int .u32 at_, .int .i64 n]

theorem cellsAt1 {w : World} {b o : Nat} {vs : List Value} (h : CellsAt w b o vs) {i : Nat} {v : Value} (hv : vs[i]? = some v) : w.cell? ⟨b, o + i, none⟩ = some v := h i v hv

set_option maxHeartbeats 4000000 in
theorem part_arg (hm : Ro (fps []) w (memA p m)) (who area : Nat) (at_ n : Int) (hw : who ≤ 255) (ha : area ≤ 255) (h : (who ≠ 1 ∧ who ≠ 2) ∨ n < 0) :
    Calls Try.prog 58 (partArgs p who area at_ n).toArray w (Ret w [] fun v B => v = partV m who area at_ n ∧ B = []) := by
  refine enter Try.func58 rfl Try.ntmps58 rfl (Hold.nil w) ?_
  have hv : partV m who area at_ n = .tuple #[.slice none 0 0, .bool false, .int .i64 1] := by rw [partV, if_pos h]
  rw [hv]
  by_cases h1 : who = 1
  · have hn : n < 0 := by omega
    (repeat (first | (refine i_dst ?_; (first | (refine i_move ?_; refine l_q rfl rfl rfl (q_move rfl) ?_) | (refine i_assign ?_; refine l_q rfl rfl rfl (q_assign rfl) ?_) | (refine i_bin ?_; refine l_q rfl rfl rfl (by (first | exact q_lss rfl rfl | exact q_neq rfl rfl | exact q_eqnil tab rfl rfl rfl)) ?_) | refine l_q rfl rfl rfl (by (exact q_pick_f rfl rfl)) ?_)) | refine c_seq (fun K hK => ?_) | refine c_region ?_ | refine l_nil ?_ | refine t_then ?_ | (refine i_k ?_; (((refine hK _ _ ?_; clear hK)))) | refine c_block ?_ | (refine i_q ?_; (first | refine t_then_ret ?_ | refine t_block_ret ?_)) | refine c_ret ?_ | (refine i_guard ?_; (first | refine l_gt rfl rfl rfl ?_ | refine l_gf rfl rfl rfl rfl rfl rfl ?_ | refine l_gfd rfl rfl rfl (by (exact decide_eq_false (by omega))) rfl rfl ?_)) | (refine i_cond ?_; (first | refine c_ct rfl (by (exact decide_eq_true (by omega))) ?_ | refine c_cf rfl (by (rfl)) ?_))))
    exact t_ret3 Try.results58 rfl rfl rfl ⟨rfl, rfl⟩
  · by_cases h2 : who = 2
    · have hn : n < 0 := by omega
      (repeat (first | (refine i_dst ?_; (first | (refine i_move ?_; refine l_q rfl rfl rfl (q_move rfl) ?_) | (refine i_assign ?_; refine l_q rfl rfl rfl (q_assign rfl) ?_) | (refine i_bin ?_; refine l_q rfl rfl rfl (by (first | exact q_lss rfl rfl | exact q_neq rfl rfl | exact q_eqnil tab rfl rfl rfl)) ?_) | refine l_q rfl rfl rfl (by (first | exact q_pick_t rfl rfl | exact q_pick_f rfl rfl)) ?_)) | refine c_seq (fun K hK => ?_) | refine c_region ?_ | refine l_nil ?_ | refine t_then ?_ | (refine i_k ?_; (((refine hK _ _ ?_; clear hK)))) | refine c_block ?_ | (refine i_q ?_; (first | refine t_then_ret ?_ | refine t_block_ret ?_)) | refine c_ret ?_ | (refine i_guard ?_; (first | refine l_gt rfl rfl rfl ?_ | (refine l_gtd rfl rfl rfl (by (first | exact decide_eq_true (by omega) | (simp; omega))) ?_))) | (refine i_cond ?_; (first | refine c_ct rfl (by (exact decide_eq_true (by omega))) ?_ | refine c_cf rfl (by (rfl)) ?_))))
      exact t_ret3 Try.results58 rfl rfl rfl ⟨rfl, rfl⟩
    · (repeat (first | (refine i_dst ?_; (first | (refine i_move ?_; refine l_q rfl rfl rfl (q_move rfl) ?_) | (refine i_assign ?_; refine l_q rfl rfl rfl (q_assign rfl) ?_) | (refine i_bin ?_; refine l_q rfl rfl rfl (by (first | exact q_neq rfl rfl | exact q_eqnil tab rfl rfl rfl)) ?_) | refine l_q rfl rfl rfl (by (exact q_pick_t rfl rfl)) ?_)) | refine c_seq (fun K hK => ?_) | refine c_region ?_ | refine l_nil ?_ | refine t_then ?_ | (refine i_k ?_; (((refine hK _ _ ?_; clear hK)))) | refine c_block ?_ | (refine i_q ?_; (first | refine t_then_ret ?_ | refine t_block_ret ?_)) | refine c_ret ?_ | (refine i_guard ?_; (first | refine l_gt rfl rfl rfl ?_ | refine l_gf rfl rfl rfl rfl rfl rfl ?_ | refine l_gtd rfl rfl rfl (by (exact decide_eq_true (by omega))) ?_ | (refine l_gfd rfl rfl rfl (by ((simp; omega))) rfl rfl ?_))) | (refine i_cond ?_; (first | refine c_ct rfl (by (rfl)) ?_ | refine c_cf rfl (by (rfl)) ?_))))
      exact t_ret3 Try.results58 rfl rfl rfl ⟨rfl, rfl⟩

set_option maxHeartbeats 4000000 in
theorem part_none (hm : Ro (fps []) w (memA p m)) (who area : Nat) (at_ n : Int) (hw : who = 1 ∨ who = 2) (hn : 0 ≤ n) (ha : area ≤ 255) (h : m.segs.length < area) :
    Calls Try.prog 58 (partArgs p who area at_ n).toArray w (Ret w [] fun v B => v = partV m who area at_ n ∧ B = []) := by
  refine enter Try.func58 rfl Try.ntmps58 rfl (Hold.nil w) ?_
  have hv : partV m who area at_ n = .tuple #[.slice none 0 0, .bool false, .int .i64 80] := by
    rw [partV, if_neg (by omega), areaV, if_neg (by omega), List.getElem?_eq_none (by omega)]
  rw [hv]
  obtain ⟨A, c, hA, hc1, hc2, hc3⟩ := row_slice (memA_row hm.is)
  have c1 : ∀ hp w', St (fps []) w hp w' → w'.cell? ⟨p, 1, none⟩ = some (.slice A m.segs.length c) := fun hp w' h => by
    rw [← hA]; exact blk_cell (memA_blk (h.ro hm)) rfl
  rcases hw with h1 | h1
  all_goals
    (repeat (first | (refine i_dst ?_; (first | (refine i_move ?_; refine l_q rfl rfl rfl (q_move rfl) ?_) | (refine i_assign ?_; refine l_q rfl rfl rfl (q_assign rfl) ?_) | (refine i_load ?_; refine l_q rfl rfl rfl (by (exact q_load tab rfl rfl rfl (c1 _))) ?_) | (refine i_bin ?_; refine l_q rfl rfl rfl (by (first | exact q_lss rfl rfl | exact q_neq rfl rfl | exact q_gtr rfl rfl | exact q_eqnil tab rfl rfl rfl)) ?_) | (refine i_blt ?_; refine l_q rfl rfl rfl (by (exact q_len tab rfl rfl)) ?_) | refine l_q rfl rfl rfl (by (first | exact q_fieldAddr tab rfl rfl rfl rfl rfl rfl rfl | exact q_nilck rfl | exact q_conv tab rfl rfl rfl (by (first | exact wr_i64 (by omega) | rfl)) | exact q_pick_t rfl rfl | exact q_pick_f rfl rfl)) ?_)) | refine c_seq (fun K hK => ?_) | refine c_region ?_ | refine l_nil ?_ | refine t_then ?_ | (refine i_k ?_; (((refine hK _ _ ?_; clear hK)))) | refine c_block ?_ | (refine i_q ?_; (first | refine t_then_ret ?_ | refine t_block_ret ?_)) | refine c_ret ?_ | (refine i_guard ?_; (first | refine l_gt rfl rfl rfl ?_ | refine l_gf rfl rfl rfl rfl rfl rfl ?_ | (refine l_gtd rfl rfl rfl (by (first | exact decide_eq_true (by omega) | (simp; omega))) ?_) | refine l_gfd rfl rfl rfl (by (exact decide_eq_false (by omega))) rfl rfl ?_)) | (refine i_cond ?_; (first | refine c_ct rfl (by (exact decide_eq_true (by omega))) ?_ | refine c_cf rfl (by (first | rfl | exact decide_eq_false (by omega))) ?_))))
    exact t_ret3 Try.results58 rfl rfl rfl ⟨rfl, rfl⟩

/-- The end of part: the area is known. -/
theorem areaV_none {m : MemV} {who area : Nat} {v : Value} {l : List Int} {f : Bool} {at_ n : Int} (hw : who = 1 ∨ who = 2) (hn : 0 ≤ n) (h : areaV m who area = some (v, l, f)) (hb : n > l.length ∨ at_ > l.length - n) : partV m who area at_ n = .tuple #[.slice none 0 0, .bool false, .int .i64 80] := by
  rw [partV, if_neg (by omega), h]
  exact if_pos hb
theorem areaV_some {m : MemV} {who area : Nat} {A : Option Addr} {k c : Nat} {l : List Int} {f : Bool} {at_ n : Int} (hw : who = 1 ∨ who = 2) (hn : 0 ≤ n) (h : areaV m who area = some (.slice A k c, l, f)) (hb : ¬ (n > l.length ∨ at_ > l.length - n)) : partV m who area at_ n = .tuple #[.slice (cutA A c at_.toNat 1) n.toNat (c - at_.toNat), .bool f, .int .i64 0] := by
  rw [partV, if_neg (by omega), h]
  exact if_neg hb

set_option maxHeartbeats 4000000 in
theorem part_ram (hm : Ro (fps []) w (memA p m)) (hk : MmOk m.abs) (who : Nat) (at_ n : Int) (hw : who = 1 ∨ who = 2) (hn : 0 ≤ n) (hn' : n ≤ 9223372036854775807) (ha0 : 0 ≤ at_) (ha1 : at_ ≤ 4294967295) :
    Calls Try.prog 58 (partArgs p who 0 at_ n).toArray w (Ret w [] fun v B => v = partV m who 0 at_ n ∧ B = []) := by
  refine enter Try.func58 rfl Try.ntmps58 rfl (Hold.nil w) ?_
  obtain ⟨A, c, hA, hc1, hc2, hc3⟩ := row_slice (memA_row hm.is)
  obtain ⟨B, d, hB, hd1, hd2, _⟩ := row_slice (memA_ram hm.is).2
  have hr : m.ram.length ≤ 1024 := hk.ram
  unfold maxLen at hd2
  have c1 : ∀ hp w', St (fps []) w hp w' → w'.cell? ⟨p, 1, none⟩ = some (.slice A m.segs.length c) := fun hp w' h => by
    rw [← hA]; exact blk_cell (memA_blk (h.ro hm)) rfl
  have c2 : ∀ hp w', St (fps []) w hp w' → w'.cell? ⟨p, 0, none⟩ = some (.slice B m.ram.length d) := fun hp w' h => by
    rw [← hB]; exact blk_cell (memA_blk (h.ro hm)) rfl
  have hav : areaV m who 0 = some (.slice B m.ram.length d, m.ram, false) := by rw [areaV, if_pos rfl, hB]
  by_cases hb : n > m.ram.length ∨ at_ > m.ram.length - n
  · rw [areaV_none hw hn hav hb]
    by_cases h1 : n > m.ram.length
    · rcases hw with h2 | h2
      all_goals
        (repeat (first | (refine i_dst ?_; (first | (refine i_move ?_; refine l_q rfl rfl rfl (q_move rfl) ?_) | (refine i_assign ?_; refine l_q rfl rfl rfl (q_assign rfl) ?_) | (refine i_load ?_; refine l_q rfl rfl rfl (by (first | exact q_load tab rfl rfl rfl (c1 _) | exact q_load tab rfl rfl rfl (c2 _))) ?_) | (refine i_bin ?_; refine l_q rfl rfl rfl (by (first | exact q_lss rfl rfl | exact q_neq rfl rfl | exact q_gtr rfl rfl | exact q_eqnil tab rfl rfl rfl)) ?_) | (refine i_blt ?_; refine l_q rfl rfl rfl (by (exact q_len tab rfl rfl)) ?_) | refine l_q rfl rfl rfl (by (first | exact q_fieldAddr tab rfl rfl rfl rfl rfl rfl rfl | exact q_nilck rfl | exact q_conv tab rfl rfl rfl (by (first | exact wr_i64 (by omega) | rfl)) | exact q_pick_t rfl rfl | exact q_pick_f rfl rfl)) ?_)) | refine c_seq (fun K hK => ?_) | refine c_region ?_ | refine l_nil ?_ | refine t_then ?_ | (refine i_k ?_; (((refine hK _ _ ?_; clear hK)))) | refine c_block ?_ | (refine i_q ?_; (first | refine t_then_ret ?_ | refine t_block ?_)) | refine c_skip ?_ | refine c_ret ?_ | (refine i_guard ?_; (first | refine l_gt rfl rfl rfl ?_ | refine l_gf rfl rfl rfl rfl rfl rfl ?_ | (refine l_gtd rfl rfl rfl (by (first | exact decide_eq_true (by omega) | (simp; omega))) ?_) | (refine l_gfd rfl rfl rfl (by (first | exact decide_eq_false (by omega) | (simp; omega))) rfl rfl ?_))) | (refine i_cond ?_; (first | refine c_ct rfl (by (rfl)) ?_ | refine c_cf rfl (by (first | rfl | exact decide_eq_false (by omega))) ?_))))
        exact t_ret3 Try.results58 rfl rfl rfl ⟨rfl, rfl⟩
    · have h3 : at_ > m.ram.length - n := by omega
      rcases hw with h2 | h2
      all_goals
        (repeat (first | (refine i_dst ?_; (first | (refine i_move ?_; refine l_q rfl rfl rfl (q_move rfl) ?_) | (refine i_assign ?_; refine l_q rfl rfl rfl (q_assign rfl) ?_) | (refine i_load ?_; refine l_q rfl rfl rfl (by (first | exact q_load tab rfl rfl rfl (c1 _) | exact q_load tab rfl rfl rfl (c2 _))) ?_) | (refine i_bin ?_; refine l_q rfl rfl rfl (by (first | exact q_lss rfl rfl | exact q_neq rfl rfl | exact q_gtr rfl rfl | exact q_sub rfl rfl (by (first | exact wr_i64 (by omega) | rfl)) | exact q_eqnil tab rfl rfl rfl)) ?_) | (refine i_blt ?_; refine l_q rfl rfl rfl (by (exact q_len tab rfl rfl)) ?_) | refine l_q rfl rfl rfl (by (first | exact q_fieldAddr tab rfl rfl rfl rfl rfl rfl rfl | exact q_nilck rfl | exact q_conv tab rfl rfl rfl (by (first | exact wr_i64 (by omega) | rfl)) | exact q_pick_t rfl rfl | exact q_pick_f rfl rfl)) ?_)) | refine c_seq (fun K hK => ?_) | refine c_region ?_ | refine l_nil ?_ | refine t_then ?_ | (refine i_k ?_; (((refine hK _ _ ?_; clear hK)))) | refine c_block ?_ | (refine i_q ?_; (first | refine t_then_ret ?_ | refine t_block ?_)) | refine c_skip ?_ | refine c_ret ?_ | (refine i_guard ?_; (first | refine l_gt rfl rfl rfl ?_ | refine l_gf rfl rfl rfl rfl rfl rfl ?_ | (refine l_gtd rfl rfl rfl (by (first | exact decide_eq_true (by omega) | (simp; omega))) ?_) | refine l_gfd rfl rfl rfl (by (exact decide_eq_false (by omega))) rfl rfl ?_)) | (refine i_cond ?_; (first | refine c_ct rfl (by (exact decide_eq_true (by omega))) ?_ | refine c_cf rfl (by (first | rfl | exact decide_eq_false (by omega))) ?_))))
        exact t_ret3 Try.results58 rfl rfl rfl ⟨rfl, rfl⟩
  · rw [areaV_some hw hn hav hb]
    rcases hw with h2 | h2
    all_goals
      (repeat (first | (refine i_dst ?_; (first | (refine i_move ?_; refine l_q rfl rfl rfl (q_move rfl) ?_) | (refine i_assign ?_; refine l_q rfl rfl rfl (q_assign rfl) ?_) | (refine i_load ?_; refine l_q rfl rfl rfl (by (first | exact q_load tab rfl rfl rfl (c1 _) | exact q_load tab rfl rfl rfl (c2 _))) ?_) | (refine i_bin ?_; refine l_q rfl rfl rfl (by (first | exact q_lss rfl rfl | exact q_neq rfl rfl | exact q_gtr rfl rfl | exact q_add rfl rfl (by (first | exact wr_i64 (by omega) | rfl)) | exact q_sub rfl rfl (by (first | exact wr_i64 (by omega) | rfl)) | exact q_eqnil tab rfl rfl rfl)) ?_) | (refine i_blt ?_; refine l_q rfl rfl rfl (by (exact q_len tab rfl rfl)) ?_) | (refine i_sl ?_; refine l_q rfl rfl rfl (by (exact q_sliceLH tab rfl rfl rfl rfl rfl (by omega))) ?_) | refine l_q rfl rfl rfl (by (first | exact q_fieldAddr tab rfl rfl rfl rfl rfl rfl rfl | exact q_nilck rfl | exact q_conv tab rfl rfl rfl (by (first | exact wr_i64 (by omega) | rfl)) | exact q_pick_t rfl rfl | exact q_pick_f rfl rfl)) ?_)) | refine c_seq (fun K hK => ?_) | refine c_region ?_ | refine l_nil ?_ | refine t_then ?_ | (refine i_k ?_; (((refine hK _ _ ?_; clear hK)))) | refine c_block ?_ | (refine i_q ?_; (refine t_block ?_)) | refine c_skip ?_ | refine c_ret ?_ | (refine i_guard ?_; (first | refine l_gt rfl rfl rfl ?_ | refine l_gf rfl rfl rfl rfl rfl rfl ?_ | (refine l_gtd rfl rfl rfl (by (first | exact decide_eq_true (by omega) | (simp; omega))) ?_) | refine l_gfd rfl rfl rfl (by (exact decide_eq_false (by omega))) rfl rfl ?_)) | (refine i_cond ?_; (refine c_cf rfl (by (first | rfl | exact decide_eq_false (by omega))) ?_))))
      exact t_ret3 Try.results58 rfl rfl rfl ⟨by rw [show (at_ + n).toNat - at_.toNat = n.toNat by omega], rfl⟩

set_option maxHeartbeats 4000000 in
theorem part_seg (hm : Ro (fps []) w (memA p m)) (hk : MmOk m.abs) (who : Nat) (a : Nat) (at_ n : Int) (hw : who = 1 ∨ who = 2) (hn : 0 ≤ n) (hn' : n ≤ 9223372036854775807) (ha0 : 0 ≤ at_) (ha1 : at_ ≤ 4294967295) (ha : a < m.segs.length) (ha2 : a + 1 ≤ 255) :
    Calls Try.prog 58 (partArgs p who (a + 1 : Nat) at_ n).toArray w (Ret w [] fun v B => v = partV m who (a + 1) at_ n ∧ B = []) := by
  refine enter Try.func58 rfl Try.ntmps58 rfl (Hold.nil w) ?_
  obtain ⟨A, c, hA, hc1, hc2, hc3⟩ := row_slice (memA_row hm.is)
  obtain ⟨gA, rfl, _⟩ := hc3 (by omega)
  obtain ⟨B, d, hB, hd1, hd2, _⟩ := row_slice (memA_ram hm.is).2
  obtain ⟨s, hs⟩ : ∃ s, m.segs[a]? = some s := ⟨m.segs[a], List.getElem?_eq_getElem ha⟩
  have hso := hk.segs s.s (List.mem_of_getElem? (abs_seg hs))
  have hsr : Ro (fps []) w (segA s) := hm.sub (fun h => memA_seg h hs) (fun b hb => ⟨_, List.mem_of_getElem? (memL_seg hs), hb⟩)
  have hpl := segA_len hsr.is
  obtain ⟨k, hkk, hk1⟩ : ∃ k : Nat, k = (if who = 1 then s.s.s0 else s.s.s1) ∧ k < s.s.dat.length := ⟨_, rfl, by have := hso.h0; have := hso.h1; split <;> omega⟩
  have hk2 : k < s.pgs.length := by omega
  obtain ⟨l, hl⟩ : ∃ l, s.s.dat[k]? = some l := ⟨s.s.dat[k], List.getElem?_eq_getElem hk1⟩
  obtain ⟨v, hv⟩ : ∃ v, s.pgs[k]? = some v := ⟨s.pgs[k], List.getElem?_eq_getElem hk2⟩
  obtain ⟨E, e, hE, he1, he2, he3⟩ := row_slice (segA_row hsr.is)
  obtain ⟨gE, rfl, _⟩ := he3 (by omega)
  obtain ⟨F, f, rfl, hf1, hf2, _⟩ := row_slice (segA_page hsr.is hv hl).2
  have hll : l.length ≤ 256 := by have := hso.len l (List.mem_of_getElem? hl); have := hso.l2; omega
  unfold maxLen at hf2 hc2 he2
  have hp4 := hso.n4
  have hn4 : m.segs.length ≤ 4 := by simpa [MemV.abs] using hk.n4
  have c1 : ∀ hp w', St (fps []) w hp w' → w'.cell? ⟨p, 1, none⟩ = some (.slice (some ⟨gA, 0, none⟩) m.segs.length c) := fun hp w' h => by
    rw [← hA]; exact blk_cell (memA_blk (h.ro hm)) rfl
  have c2 : ∀ hp w', St (fps []) w hp w' → w'.cell? ⟨p, 0, none⟩ = some (.slice B m.ram.length d) := fun hp w' h => by
    rw [← hB]; exact blk_cell (memA_blk (h.ro hm)) rfl
  have c3 : ∀ hp w', St (fps []) w hp w' → w'.cell? ⟨gA, 0 + ((((a + 1 : Nat) : Int)) - 1).toNat, none⟩ = some (.pointer (some ⟨s.b, 0, none⟩)) := fun hp w' h => by
    have h1 := memA_row (h.ro hm)
    rw [hA] at h1
    refine row_cells h1 rfl _ _ ?_
    rw [show ((((a + 1 : Nat) : Int)) - 1).toNat = a by omega, List.getElem?_map, hs]
    rfl
  have c4 : ∀ hp w', St (fps []) w hp w' → w'.cell? ⟨s.b, 0 + 1 + ((who : Int) - 1).toNat, none⟩ = some (.int .i64 k) := fun hp w' h => by
    have h1 := segA_blk (h.ro hsr)
    refine blk_cell h1 ?_
    rcases hw with h2 | h2 <;> subst h2 <;> simp at hkk <;> rw [hkk] <;> rfl
  have c5 : ∀ hp w', St (fps []) w hp w' → w'.cell? ⟨s.b, 0, none⟩ = some (.slice (some ⟨gE, 0, none⟩) s.pgs.length e) := fun hp w' h => by
    rw [← hE]; exact blk_cell (segA_blk (h.ro hsr)) rfl
  have c6 : ∀ hp w', St (fps []) w hp w' → w'.cell? ⟨gE, 0 + ((k : Nat) : Int).toNat, none⟩ = some (.slice F l.length f) := fun hp w' h => by
    have h1 := segA_row (h.ro hsr)
    rw [hE] at h1
    exact row_cells h1 rfl _ _ hv
  have hav : areaV m who (a + 1) = some (.slice F l.length f, l, decide (k = 0)) := by
    rw [areaV, if_neg (by omega), show a + 1 - 1 = a by omega, hs]
    simp only [← hkk, hv, hl]
  by_cases hb : n > l.length ∨ at_ > l.length - n
  · rw [areaV_none hw hn hav hb]
    by_cases h1 : n > l.length
    · rcases hw with h2 | h2
      all_goals
        (repeat (first | (refine i_dst ?_; (first | (refine i_move ?_; refine l_q rfl rfl rfl (q_move rfl) ?_) | (refine i_assign ?_; refine l_q rfl rfl rfl (q_assign rfl) ?_) | (refine i_load ?_; refine l_q rfl rfl rfl (by (first | exact q_load tab rfl rfl rfl (c1 _) | exact q_load tab rfl rfl rfl (c2 _) | exact q_load tab rfl rfl rfl (c3 _) | exact q_load tab rfl rfl rfl (c4 _) | exact q_load tab rfl rfl rfl (c5 _) | exact q_load tab rfl rfl rfl (c6 _))) ?_) | (refine i_bin ?_; refine l_q rfl rfl rfl (by (first | exact q_lss rfl rfl | exact q_eql rfl rfl | exact q_neq rfl rfl | exact q_gtr rfl rfl | exact q_sub rfl rfl (by (first | exact wr_u8 (by omega) | rfl)) | exact q_eqnil tab rfl rfl rfl)) ?_) | (refine i_blt ?_; refine l_q rfl rfl rfl (by (exact q_len tab rfl rfl)) ?_) | (refine i_ix ?_; refine l_q rfl rfl rfl (by (first | exact q_indexAddr1 tab rfl rfl rfl rfl (by omega) | exact q_indexAddrA1 tab rfl rfl rfl rfl (by omega))) ?_) | refine l_q rfl rfl rfl (by (first | exact q_fieldAddr tab rfl rfl rfl rfl rfl rfl rfl | exact q_nilck rfl | exact q_conv tab rfl rfl rfl (by (first | exact wr_i64 (by omega) | rfl)) | exact q_pick_t rfl rfl | exact q_pick_f rfl rfl)) ?_)) | refine c_seq (fun K hK => ?_) | refine c_region ?_ | refine l_nil ?_ | refine t_then ?_ | (refine i_k ?_; (((refine hK _ _ ?_; clear hK)))) | refine c_block ?_ | (refine i_q ?_; (first | refine t_then_ret ?_ | refine t_block ?_)) | refine c_skip ?_ | refine c_ret ?_ | (refine i_guard ?_; (first | refine l_gt rfl rfl rfl ?_ | refine l_gf rfl rfl rfl rfl rfl rfl ?_ | (refine l_gtd rfl rfl rfl (by (first | exact decide_eq_true (by omega) | (simp; omega))) ?_) | (refine l_gfd rfl rfl rfl (by (first | exact decide_eq_false (by omega) | (simp; omega))) rfl rfl ?_))) | (refine i_cond ?_; (first | (refine c_ct rfl (by (first | rfl | ((first | (simp; done) | fail)))) ?_) | refine c_cf rfl (by (first | rfl | exact decide_eq_false (by omega))) ?_))))
        exact t_ret3 Try.results58 rfl rfl rfl ⟨rfl, rfl⟩
    · have h3 : at_ > l.length - n := by omega
      rcases hw with h2 | h2
      all_goals
        (repeat (first | (refine i_dst ?_; (first | (refine i_move ?_; refine l_q rfl rfl rfl (q_move rfl) ?_) | (refine i_assign ?_; refine l_q rfl rfl rfl (q_assign rfl) ?_) | (refine i_load ?_; refine l_q rfl rfl rfl (by (first | exact q_load tab rfl rfl rfl (c1 _) | exact q_load tab rfl rfl rfl (c2 _) | exact q_load tab rfl rfl rfl (c3 _) | exact q_load tab rfl rfl rfl (c4 _) | exact q_load tab rfl rfl rfl (c5 _) | exact q_load tab rfl rfl rfl (c6 _))) ?_) | (refine i_bin ?_; refine l_q rfl rfl rfl (by (first | exact q_lss rfl rfl | exact q_eql rfl rfl | exact q_neq rfl rfl | exact q_gtr rfl rfl | exact q_sub rfl rfl (by (first | exact wr_i64 (by omega) | exact wr_u8 (by omega) | rfl)) | exact q_eqnil tab rfl rfl rfl)) ?_) | (refine i_blt ?_; refine l_q rfl rfl rfl (by (exact q_len tab rfl rfl)) ?_) | (refine i_ix ?_; refine l_q rfl rfl rfl (by (first | exact q_indexAddr1 tab rfl rfl rfl rfl (by omega) | exact q_indexAddrA1 tab rfl rfl rfl rfl (by omega))) ?_) | refine l_q rfl rfl rfl (by (first | exact q_fieldAddr tab rfl rfl rfl rfl rfl rfl rfl | exact q_nilck rfl | exact q_conv tab rfl rfl rfl (by (first | exact wr_i64 (by omega) | rfl)) | exact q_pick_t rfl rfl | exact q_pick_f rfl rfl)) ?_)) | refine c_seq (fun K hK => ?_) | refine c_region ?_ | refine l_nil ?_ | refine t_then ?_ | (refine i_k ?_; (((refine hK _ _ ?_; clear hK)))) | refine c_block ?_ | (refine i_q ?_; (first | refine t_then_ret ?_ | refine t_block ?_)) | refine c_skip ?_ | refine c_ret ?_ | (refine i_guard ?_; (first | refine l_gt rfl rfl rfl ?_ | refine l_gf rfl rfl rfl rfl rfl rfl ?_ | (refine l_gtd rfl rfl rfl (by (first | exact decide_eq_true (by omega) | (simp; omega))) ?_) | refine l_gfd rfl rfl rfl (by (exact decide_eq_false (by omega))) rfl rfl ?_)) | (refine i_cond ?_; (first | (refine c_ct rfl (by (first | ((first | (simp; done) | fail)) | exact decide_eq_true (by omega))) ?_) | refine c_cf rfl (by (first | rfl | exact decide_eq_false (by omega))) ?_))))
        exact t_ret3 Try.results58 rfl rfl rfl ⟨rfl, rfl⟩
  · rw [areaV_some hw hn hav hb]
    rcases hw with h2 | h2
    all_goals
      (repeat (first | (refine i_dst ?_; (first | (refine i_move ?_; refine l_q rfl rfl rfl (q_move rfl) ?_) | (refine i_assign ?_; refine l_q rfl rfl rfl (q_assign rfl) ?_) | (refine i_load ?_; refine l_q rfl rfl rfl (by (first | exact q_load tab rfl rfl rfl (c1 _) | exact q_load tab rfl rfl rfl (c2 _) | exact q_load tab rfl rfl rfl (c3 _) | exact q_load tab rfl rfl rfl (c4 _) | exact q_load tab rfl rfl rfl (c5 _) | exact q_load tab rfl rfl rfl (c6 _))) ?_) | (refine i_bin ?_; refine l_q rfl rfl rfl (by (first | exact q_lss rfl rfl | exact q_eql rfl rfl | exact q_neq rfl rfl | exact q_gtr rfl rfl | exact q_add rfl rfl (by (first | exact wr_i64 (by omega) | rfl)) | exact q_sub rfl rfl (by (first | exact wr_i64 (by omega) | exact wr_u8 (by omega) | rfl)) | exact q_eqnil tab rfl rfl rfl)) ?_) | (refine i_blt ?_; refine l_q rfl rfl rfl (by (exact q_len tab rfl rfl)) ?_) | (refine i_ix ?_; refine l_q rfl rfl rfl (by (first | exact q_indexAddr1 tab rfl rfl rfl rfl (by omega) | exact q_indexAddrA1 tab rfl rfl rfl rfl (by omega))) ?_) | (refine i_sl ?_; refine l_q rfl rfl rfl (by (exact q_sliceLH tab rfl rfl rfl rfl rfl (by omega))) ?_) | refine l_q rfl rfl rfl (by (first | exact q_fieldAddr tab rfl rfl rfl rfl rfl rfl rfl | exact q_nilck rfl | exact q_conv tab rfl rfl rfl (by (first | exact wr_i64 (by omega) | rfl)) | exact q_pick_t rfl rfl | exact q_pick_f rfl rfl)) ?_)) | refine c_seq (fun K hK => ?_) | refine c_region ?_ | refine l_nil ?_ | refine t_then ?_ | (refine i_k ?_; (((refine hK _ _ ?_; clear hK)))) | refine c_block ?_ | (refine i_q ?_; (refine t_block ?_)) | refine c_skip ?_ | refine c_ret ?_ | (refine i_guard ?_; (first | refine l_gt rfl rfl rfl ?_ | refine l_gf rfl rfl rfl rfl rfl rfl ?_ | (refine l_gtd rfl rfl rfl (by (first | exact decide_eq_true (by omega) | (simp; omega))) ?_) | refine l_gfd rfl rfl rfl (by (exact decide_eq_false (by omega))) rfl rfl ?_)) | (refine i_cond ?_; (first | (refine c_ct rfl (by (((first | (simp; done) | fail)))) ?_) | refine c_cf rfl (by (first | rfl | exact decide_eq_false (by omega))) ?_))))
      refine t_ret3 Try.results58 rfl rfl rfl ⟨?_, rfl⟩
      rw [show (at_ + n).toNat - at_.toNat = n.toNat by omega]
      simp

/-- part, whole. -/
theorem part_spec (hm : Ro (fps []) w (memA p m)) (hk : MmOk m.abs) (who area : Nat) (at_ n : Int) (hw : who ≤ 255) (ha : area ≤ 255) (hn : -9223372036854775808 ≤ n ∧ n ≤ 9223372036854775807) (ha0 : 0 ≤ at_) (ha1 : at_ ≤ 4294967295) :
    Calls Try.prog 58 (partArgs p who area at_ n).toArray w (Ret w [] fun v B => v = partV m who area at_ n ∧ B = []) := by
  by_cases h1 : (who ≠ 1 ∧ who ≠ 2) ∨ n < 0
  · exact part_arg hm who area at_ n hw ha h1
  · by_cases h2 : m.segs.length < area
    · exact part_none hm who area at_ n (by omega) (by omega) ha h2
    · cases area with
      | zero => exact part_ram hm hk who at_ n (by omega) (by omega) hn.2 ha0 ha1
      | succ a => exact part_seg hm hk who a at_ n (by omega) (by omega) hn.2 ha0 ha1 (by omega) ha
theorem areaV_abs {m : MemV} {who area : Nat} {w : World} (h : (memA p m).C w) (hk : MmOk m.abs) : (∃ v l f, areaV m who area = some (v, l, f) ∧ areaM m.abs who area = some (l, f) ∧ (bytesA v l).C w ∧ (∀ b, (bytesA v l).S b → (memA p m).S b) ∧ l.length ≤ 1024) ∨ (areaV m who area = none ∧ areaM m.abs who area = none) := by
  unfold areaV areaM
  by_cases h0 : area = 0
  · rw [if_pos h0, if_pos h0]
    exact .inl ⟨_, _, _, rfl, rfl, memA_ram h, fun b hb => ⟨_, List.mem_of_getElem? (i := 1) rfl, hb⟩, hk.ram⟩
  · rw [if_neg h0, if_neg h0]
    cases hs : m.segs[area - 1]? with
    | none => right; simp [MemV.abs, hs]
    | some s =>
      left
      have hso := hk.segs s.s (List.mem_of_getElem? (abs_seg hs))
      have hsa := memA_seg h hs
      have hpl := segA_len hsa
      obtain ⟨k, hkk, hk1⟩ : ∃ k : Nat, k = (if who = 1 then s.s.s0 else s.s.s1) ∧ k < s.s.dat.length := ⟨_, rfl, by have := hso.h0; have := hso.h1; split <;> omega⟩
      obtain ⟨l, hl⟩ : ∃ l, s.s.dat[k]? = some l := ⟨s.s.dat[k], List.getElem?_eq_getElem hk1⟩
      obtain ⟨v, hv⟩ : ∃ v, s.pgs[k]? = some v := ⟨s.pgs[k]'(by omega), List.getElem?_eq_getElem (by omega)⟩
      refine ⟨v, l, decide (k = 0), ?_, ?_, segA_page hsa hv hl, fun b hb => ⟨_, List.mem_of_getElem? (memL_seg hs), ⟨_, List.mem_of_getElem? (segL_page hv hl), hb⟩⟩, by have := hso.len l (List.mem_of_getElem? hl); have := hso.l2; omega⟩
      · simp only [← hkk, hl, hv]
      · rw [abs_seg hs]
        simp only [← hkk, hl]
end
end Go.Proofs.Ytidekbijkknlmaa

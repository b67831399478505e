/-
  Part 5 of the proof of QJ: the texts M2 M3 M4 M5.
-/
import Derived.Test.YtboccjdncdaakaaK04

/-
  Layer 8: mem.part, walked.
-/

set_option linter.unusedVariables false
set_option maxRecDepth 100000
namespace Go.Proofs.Ytboccjdncdaakaa
open Go.RowKit
attribute [local irreducible] TL TC TQ TK TO Qt TA
/-- The area that somebody sees: its bytes, whether it is fixed. -/
def areaM (M : Mm) (who area : Nat) : Option (List Int × Bool) :=
  if area = 0 then some (M.ram, false)
  else match M.segs[area - 1]? with
    | none => none
    | some s =>
      match s.dat[if who = 1 then s.s0 else s.s1]? with
      | some l => some (l, decide ((if who = 1 then s.s0 else s.s1) = 0))
      | none => none
/-- The area that somebody sees: its slice, its bytes, whether it is fixed. -/
def areaV (m : MemV) (who area : Nat) : Option (Value × List Int × Bool) :=
  if area = 0 then some (m.rv, m.ram, false)
  else match m.segs[area - 1]? with
    | none => none
    | some s =>
      match s.pgs[if who = 1 then s.s.s0 else s.s.s1]?, s.s.dat[if who = 1 then s.s.s0 else s.s.s1]? with
      | some v, some l => some (v, l, decide ((if who = 1 then s.s.s0 else s.s.s1) = 0))
      | _, _ => none
/-- What part tells. -/
def partV (m : MemV) (who area : Nat) (at_ n : Int) : Value :=
  if (who ≠ 1 ∧ who ≠ 2) ∨ n < 0 then .tuple #[.slice none 0 0, .bool false, .int .i64 1]
  else match areaV m who area with
    | none => .tuple #[.slice none 0 0, .bool false, .int .i64 80]
    | some (v, l, f) =>
      if n > l.length ∨ at_ > l.length - n then .tuple #[.slice none 0 0, .bool false, .int .i64 80]
      else match v with
        | .slice A _ c => .tuple #[.slice (cutA A c at_.toNat 1) n.toNat (c - at_.toNat), .bool f, .int .i64 0]
        | _ => .tuple #[]

section
variable {p : Nat} {m : MemV} {w : World}
abbrev partArgs (p : Nat) (who area : Nat) (at_ n : Int) : List Value := [.pointer (some ⟨p, 0, none⟩), .int .u8 who, .int .u8 area, .int .u32 at_, .int .i64 n]

theorem cellsAt1 {w : World} {b o : Nat} {vs : List Value} (h : CellsAt w b o vs) {i : Nat} {v : Value} (hv : vs[i]? = some v) : w.cell? ⟨b, o + i, none⟩ = some v := h i v hv

set_option maxHeartbeats 4000000 in
theorem part_arg (hm : Ro (fps []) w (memA p m)) (who area : Nat) (at_ n : Int) (hw : who ≤ 255) (ha : area ≤ 255) (h : (who ≠ 1 ∧ who ≠ 2) ∨ n < 0) :
    Calls Try.prog 21 (partArgs p who area at_ n).toArray w (Ret w [] fun v B => v = partV m who area at_ n ∧ B = []) := by
  refine enter Try.func21 rfl Try.ntmps21 rfl (Hold.nil w) ?_
  have hv : partV m who area at_ n = .tuple #[.slice none 0 0, .bool false, .int .i64 1] := by rw [partV, if_pos h]
  rw [hv]
  by_cases h1 : who = 1
  · have hn : n < 0 := by omega
    (repeat (first | (refine i_dst ?_; (first | (refine i_move ?_; refine l_q rfl rfl rfl (q_move rfl) ?_) | (refine i_assign ?_; refine l_q rfl rfl rfl (q_assign rfl) ?_) | (refine i_bin ?_; refine l_q rfl rfl rfl (by (first | exact q_lss rfl rfl | exact q_neq rfl rfl | exact q_eqnil tab rfl rfl rfl)) ?_) | refine l_q rfl rfl rfl (by (exact q_pick_f rfl rfl)) ?_)) | refine c_seq (fun K hK => ?_) | refine c_region ?_ | refine l_nil ?_ | refine t_then ?_ | (refine i_k ?_; (((refine hK _ _ ?_; clear hK)))) | refine c_block ?_ | (refine i_q ?_; (first | refine t_then_ret ?_ | refine t_block_ret ?_)) | refine c_ret ?_ | (refine i_guard ?_; (first | refine l_gt rfl rfl rfl ?_ | refine l_gf rfl rfl rfl rfl rfl rfl ?_ | refine l_gfd rfl rfl rfl (by (exact decide_eq_false (by omega))) rfl rfl ?_)) | (refine i_cond ?_; (first | refine c_ct rfl (by (exact decide_eq_true (by omega))) ?_ | refine c_cf rfl (by (rfl)) ?_))))
    exact t_ret3 Try.results21 rfl rfl rfl ⟨rfl, rfl⟩
  · by_cases h2 : who = 2
    · have hn : n < 0 := by omega
      (repeat (first | (refine i_dst ?_; (first | (refine i_move ?_; refine l_q rfl rfl rfl (q_move rfl) ?_) | (refine i_assign ?_; refine l_q rfl rfl rfl (q_assign rfl) ?_) | (refine i_bin ?_; refine l_q rfl rfl rfl (by (first | exact q_lss rfl rfl | exact q_neq rfl rfl | exact q_eqnil tab rfl rfl rfl)) ?_) | refine l_q rfl rfl rfl (by (first | exact q_pick_t rfl rfl | exact q_pick_f rfl rfl)) ?_)) | refine c_seq (fun K hK => ?_) | refine c_region ?_ | refine l_nil ?_ | refine t_then ?_ | (refine i_k ?_; (((refine hK _ _ ?_; clear hK)))) | refine c_block ?_ | (refine i_q ?_; (first | refine t_then_ret ?_ | refine t_block_ret ?_)) | refine c_ret ?_ | (refine i_guard ?_; (first | refine l_gt rfl rfl rfl ?_ | (refine l_gtd rfl rfl rfl (by (first | exact decide_eq_true (by omega) | (simp; omega))) ?_))) | (refine i_cond ?_; (first | refine c_ct rfl (by (exact decide_eq_true (by omega))) ?_ | refine c_cf rfl (by (rfl)) ?_))))
      exact t_ret3 Try.results21 rfl rfl rfl ⟨rfl, rfl⟩
    · (repeat (first | (refine i_dst ?_; (first | (refine i_move ?_; refine l_q rfl rfl rfl (q_move rfl) ?_) | (refine i_assign ?_; refine l_q rfl rfl rfl (q_assign rfl) ?_) | (refine i_bin ?_; refine l_q rfl rfl rfl (by (first | exact q_neq rfl rfl | exact q_eqnil tab rfl rfl rfl)) ?_) | refine l_q rfl rfl rfl (by (exact q_pick_t rfl rfl)) ?_)) | refine c_seq (fun K hK => ?_) | refine c_region ?_ | refine l_nil ?_ | refine t_then ?_ | (refine i_k ?_; (((refine hK _ _ ?_; clear hK)))) | refine c_block ?_ | (refine i_q ?_; (first | refine t_then_ret ?_ | refine t_block_ret ?_)) | refine c_ret ?_ | (refine i_guard ?_; (first | refine l_gt rfl rfl rfl ?_ | refine l_gf rfl rfl rfl rfl rfl rfl ?_ | refine l_gtd rfl rfl rfl (by (exact decide_eq_true (by omega))) ?_ | (refine l_gfd rfl rfl rfl (by ((simp; omega))) rfl rfl ?_))) | (refine i_cond ?_; (first | refine c_ct rfl (by (rfl)) ?_ | refine c_cf rfl (by (rfl)) ?_))))
      exact t_ret3 Try.results21 rfl rfl rfl ⟨rfl, rfl⟩

set_option maxHeartbeats 4000000 in
theorem part_none (hm : Ro (fps []) w (memA p m)) (who area : Nat) (at_ n : Int) (hw : who = 1 ∨ who = 2) (hn : 0 ≤ n) (ha : area ≤ 255) (h : m.segs.length < area) :
    Calls Try.prog 21 (partArgs p who area at_ n).toArray w (Ret w [] fun v B => v = partV m who area at_ n ∧ B = []) := by
  refine enter Try.func21 rfl Try.ntmps21 rfl (Hold.nil w) ?_
  have hv : partV m who area at_ n = .tuple #[.slice none 0 0, .bool false, .int .i64 80] := by
    rw [partV, if_neg (by omega), areaV, if_neg (by omega), List.getElem?_eq_none (by omega)]
  rw [hv]
  obtain ⟨A, c, hA, hc1, hc2, hc3⟩ := row_slice (memA_row hm.is)
  have c1 : ∀ hp w', St (fps []) w hp w' → w'.cell? ⟨p, 1, none⟩ = some (.slice A m.segs.length c) := fun hp w' h => by
    rw [← hA]; exact blk_cell (memA_blk (h.ro hm)) rfl
  rcases hw with h1 | h1
  all_goals
    (repeat (first | (refine i_dst ?_; (first | (refine i_move ?_; refine l_q rfl rfl rfl (q_move rfl) ?_) | (refine i_assign ?_; refine l_q rfl rfl rfl (q_assign rfl) ?_) | (refine i_load ?_; refine l_q rfl rfl rfl (by (exact q_load tab rfl rfl rfl (c1 _))) ?_) | (refine i_bin ?_; refine l_q rfl rfl rfl (by (first | exact q_lss rfl rfl | exact q_neq rfl rfl | exact q_gtr rfl rfl | exact q_eqnil tab rfl rfl rfl)) ?_) | (refine i_blt ?_; refine l_q rfl rfl rfl (by (exact q_len tab rfl rfl)) ?_) | refine l_q rfl rfl rfl (by (first | exact q_fieldAddr tab rfl rfl rfl rfl rfl rfl rfl | exact q_nilck rfl | exact q_conv tab rfl rfl rfl (by (first | exact wr_i64 (by omega) | rfl)) | exact q_pick_t rfl rfl | exact q_pick_f rfl rfl)) ?_)) | refine c_seq (fun K hK => ?_) | refine c_region ?_ | refine l_nil ?_ | refine t_then ?_ | (refine i_k ?_; (((refine hK _ _ ?_; clear hK)))) | refine c_block ?_ | (refine i_q ?_; (first | refine t_then_ret ?_ | refine t_block_ret ?_)) | refine c_ret ?_ | (refine i_guard ?_; (first | refine l_gt rfl rfl rfl ?_ | refine l_gf rfl rfl rfl rfl rfl rfl ?_ | (refine l_gtd rfl rfl rfl (by (first | exact decide_eq_true (by omega) | (simp; omega))) ?_) | refine l_gfd rfl rfl rfl (by (exact decide_eq_false (by omega))) rfl rfl ?_)) | (refine i_cond ?_; (first | refine c_ct rfl (by (exact decide_eq_true (by omega))) ?_ | refine c_cf rfl (by (first | rfl | exact decide_eq_false (by omega))) ?_))))
    exact t_ret3 Try.results21 rfl rfl rfl ⟨rfl, rfl⟩

/-- The end of part: the area is known. -/
theorem areaV_none {m : MemV} {who area : Nat} {v : Value} {l : List Int} {f : Bool} {at_ n : Int} (hw : who = 1 ∨ who = 2) (hn : 0 ≤ n) (h : areaV m who area = some (v, l, f)) (hb : n > l.length ∨ at_ > l.length - n) : partV m who area at_ n = .tuple #[.slice none 0 0, .bool false, .int .i64 80] := by
  rw [partV, if_neg (by omega), h]
  exact if_pos hb
theorem areaV_some {m : MemV} {who area : Nat} {A : Option Addr} {k c : Nat} {l : List Int} {f : Bool} {at_ n : Int} (hw : who = 1 ∨ who = 2) (hn : 0 ≤ n) (h : areaV m who area = some (.slice A k c, l, f)) (hb : ¬ (n > l.length ∨ at_ > l.length - n)) : partV m who area at_ n = .tuple #[.slice (cutA A c at_.toNat 1) n.toNat (c - at_.toNat), .bool f, .int .i64 0] := by
  rw [partV, if_neg (by omega), h]
  exact if_neg hb

set_option maxHeartbeats 4000000 in
theorem part_ram (hm : Ro (fps []) w (memA p m)) (hk : MmOk m.abs) (who : Nat) (at_ n : Int) (hw : who = 1 ∨ who = 2) (hn : 0 ≤ n) (hn' : n ≤ 9223372036854775807) (ha0 : 0 ≤ at_) (ha1 : at_ ≤ 4294967295) :
    Calls Try.prog 21 (partArgs p who 0 at_ n).toArray w (Ret w [] fun v B => v = partV m who 0 at_ n ∧ B = []) := by
  refine enter Try.func21 rfl Try.ntmps21 rfl (Hold.nil w) ?_
  obtain ⟨A, c, hA, hc1, hc2, hc3⟩ := row_slice (memA_row hm.is)
  obtain ⟨B, d, hB, hd1, hd2, _⟩ := row_slice (memA_ram hm.is).2
  have hr : m.ram.length ≤ 1024 := hk.ram
  unfold maxLen at hd2
  have c1 : ∀ hp w', St (fps []) w hp w' → w'.cell? ⟨p, 1, none⟩ = some (.slice A m.segs.length c) := fun hp w' h => by
    rw [← hA]; exact blk_cell (memA_blk (h.ro hm)) rfl
  have c2 : ∀ hp w', St (fps []) w hp w' → w'.cell? ⟨p, 0, none⟩ = some (.slice B m.ram.length d) := fun hp w' h => by
    rw [← hB]; exact blk_cell (memA_blk (h.ro hm)) rfl
  have hav : areaV m who 0 = some (.slice B m.ram.length d, m.ram, false) := by rw [areaV, if_pos rfl, hB]
  by_cases hb : n > m.ram.length ∨ at_ > m.ram.length - n
  · rw [areaV_none hw hn hav hb]
    by_cases h1 : n > m.ram.length
    · rcases hw with h2 | h2
      all_goals
        (repeat (first | (refine i_dst ?_; (first | (refine i_move ?_; refine l_q rfl rfl rfl (q_move rfl) ?_) | (refine i_assign ?_; refine l_q rfl rfl rfl (q_assign rfl) ?_) | (refine i_load ?_; refine l_q rfl rfl rfl (by (first | exact q_load tab rfl rfl rfl (c1 _) | exact q_load tab rfl rfl rfl (c2 _))) ?_) | (refine i_bin ?_; refine l_q rfl rfl rfl (by (first | exact q_lss rfl rfl | exact q_neq rfl rfl | exact q_gtr rfl rfl | exact q_eqnil tab rfl rfl rfl)) ?_) | (refine i_blt ?_; refine l_q rfl rfl rfl (by (exact q_len tab rfl rfl)) ?_) | refine l_q rfl rfl rfl (by (first | exact q_fieldAddr tab rfl rfl rfl rfl rfl rfl rfl | exact q_nilck rfl | exact q_conv tab rfl rfl rfl (by (first | exact wr_i64 (by omega) | rfl)) | exact q_pick_t rfl rfl | exact q_pick_f rfl rfl)) ?_)) | refine c_seq (fun K hK => ?_) | refine c_region ?_ | refine l_nil ?_ | refine t_then ?_ | (refine i_k ?_; (((refine hK _ _ ?_; clear hK)))) | refine c_block ?_ | (refine i_q ?_; (first | refine t_then_ret ?_ | refine t_block ?_)) | refine c_skip ?_ | refine c_ret ?_ | (refine i_guard ?_; (first | refine l_gt rfl rfl rfl ?_ | refine l_gf rfl rfl rfl rfl rfl rfl ?_ | (refine l_gtd rfl rfl rfl (by (first | exact decide_eq_true (by omega) | (simp; omega))) ?_) | (refine l_gfd rfl rfl rfl (by (first | exact decide_eq_false (by omega) | (simp; omega))) rfl rfl ?_))) | (refine i_cond ?_; (first | refine c_ct rfl (by (rfl)) ?_ | refine c_cf rfl (by (first | rfl | exact decide_eq_false (by omega))) ?_))))
        exact t_ret3 Try.results21 rfl rfl rfl ⟨rfl, rfl⟩
    · have h3 : at_ > m.ram.length - n := by omega
      rcases hw with h2 | h2
      all_goals
        (repeat (first | (refine i_dst ?_; (first | (refine i_move ?_; refine l_q rfl rfl rfl (q_move rfl) ?_) | (refine i_assign ?_; refine l_q rfl rfl rfl (q_assign rfl) ?_) | (refine i_load ?_; refine l_q rfl rfl rfl (by (first | exact q_load tab rfl rfl rfl (c1 _) | exact q_load tab rfl rfl rfl (c2 _))) ?_) | (refine i_bin ?_; refine l_q rfl rfl rfl (by (first | exact q_lss rfl rfl | exact q_neq rfl rfl | exact q_gtr rfl rfl | exact q_sub rfl rfl (by (first | exact wr_i64 (by omega) | rfl)) | exact q_eqnil tab rfl rfl rfl)) ?_) | (refine i_blt ?_; refine l_q rfl rfl rfl (by (exact q_len tab rfl rfl)) ?_) | refine l_q rfl rfl rfl (by (first | exact q_fieldAddr tab rfl rfl rfl rfl rfl rfl rfl | exact q_nilck rfl | exact q_conv tab rfl rfl rfl (by (first | exact wr_i64 (by omega) | rfl)) | exact q_pick_t rfl rfl | exact q_pick_f rfl rfl)) ?_)) | refine c_seq (fun K hK => ?_) | refine c_region ?_ | refine l_nil ?_ | refine t_then ?_ | (refine i_k ?_; (((refine hK _ _ ?_; clear hK)))) | refine c_block ?_ | (refine i_q ?_; (first | refine t_then_ret ?_ | refine t_block ?_)) | refine c_skip ?_ | refine c_ret ?_ | (refine i_guard ?_; (first | refine l_gt rfl rfl rfl ?_ | refine l_gf rfl rfl rfl rfl rfl rfl ?_ | (refine l_gtd rfl rfl rfl (by (first | exact decide_eq_true (by omega) | (simp; omega))) ?_) | refine l_gfd rfl rfl rfl (by (exact decide_eq_false (by omega))) rfl rfl ?_)) | (refine i_cond ?_; (first | refine c_ct rfl (by (exact decide_eq_true (by omega))) ?_ | refine c_cf rfl (by (first | rfl | exact decide_eq_false (by omega))) ?_))))
        exact t_ret3 Try.results21 rfl rfl rfl ⟨rfl, rfl⟩
  · rw [areaV_some hw hn hav hb]
    rcases hw with h2 | h2
    all_goals
      (repeat (first | (refine i_dst ?_; (first | (refine i_move ?_; refine l_q rfl rfl rfl (q_move rfl) ?_) | (refine i_assign ?_; refine l_q rfl rfl rfl (q_assign rfl) ?_) | (refine i_load ?_; refine l_q rfl rfl rfl (by (first | exact q_load tab rfl rfl rfl (c1 _) | exact q_load tab rfl rfl rfl (c2 _))) ?_) | (refine i_bin ?_; refine l_q rfl rfl rfl (by (first | exact q_lss rfl rfl | exact q_neq rfl rfl | exact q_gtr rfl rfl | exact q_add rfl rfl (by (first | exact wr_i64 (by omega) | rfl)) | exact q_sub rfl rfl (by (first | exact wr_i64 (by omega) | rfl)) | exact q_eqnil tab rfl rfl rfl)) ?_) | (refine i_blt ?_; refine l_q rfl rfl rfl (by (exact q_len tab rfl rfl)) ?_) | (refine i_sl ?_; refine l_q rfl rfl rfl (by (exact q_sliceLH tab rfl rfl rfl rfl rfl (by omega))) ?_) | refine l_q rfl rfl rfl (by (first | exact q_fieldAddr tab rfl rfl rfl rfl rfl rfl rfl | exact q_nilck rfl | exact q_conv tab rfl rfl rfl (by (first | exact wr_i64 (by omega) | rfl)) | exact q_pick_t rfl rfl | exact q_pick_f rfl rfl)) ?_)) | refine c_seq (fun K hK => ?_) | refine c_region ?_ | refine l_nil ?_ | refine t_then ?_ | (refine i_k ?_; (((refine hK _ _ ?_; clear hK)))) | refine c_block ?_ | (refine i_q ?_; (refine t_block ?_)) | refine c_skip ?_ | refine c_ret ?_ | (refine i_guard ?_; (first | refine l_gt rfl rfl rfl ?_ | refine l_gf rfl rfl rfl rfl rfl rfl ?_ | (refine l_gtd rfl rfl rfl (by (first | exact decide_eq_true (by omega) | (simp; omega))) ?_) | refine l_gfd rfl rfl rfl (by (exact decide_eq_false (by omega))) rfl rfl ?_)) | (refine i_cond ?_; (refine c_cf rfl (by (first | rfl | exact decide_eq_false (by omega))) ?_))))
      exact t_ret3 Try.results21 rfl rfl rfl ⟨by rw [show (at_ + n).toNat - at_.toNat = n.toNat by omega], rfl⟩

set_option maxHeartbeats 4000000 in
theorem part_seg (hm : Ro (fps []) w (memA p m)) (hk : MmOk m.abs) (who : Nat) (a : Nat) (at_ n : Int) (hw : who = 1 ∨ who = 2) (hn : 0 ≤ n) (hn' : n ≤ 9223372036854775807) (ha0 : 0 ≤ at_) (ha1 : at_ ≤ 4294967295) (ha : a < m.segs.length) (ha2 : a + 1 ≤ 255) :
    Calls Try.prog 21 (partArgs p who (a + 1 : Nat) at_ n).toArray w (Ret w [] fun v B => v = partV m who (a + 1) at_ n ∧ B = []) := by
  refine enter Try.func21 rfl Try.ntmps21 rfl (Hold.nil w) ?_
  obtain ⟨A, c, hA, hc1, hc2, hc3⟩ := row_slice (memA_row hm.is)
  obtain ⟨gA, rfl, _⟩ := hc3 (by omega)
  obtain ⟨B, d, hB, hd1, hd2, _⟩ := row_slice (memA_ram hm.is).2
  obtain ⟨s, hs⟩ : ∃ s, m.segs[a]? = some s := ⟨m.segs[a], List.getElem?_eq_getElem ha⟩
  have hso := hk.segs s.s (List.mem_of_getElem? (abs_seg hs))
  have hsr : Ro (fps []) w (segA s) := hm.sub (fun h => memA_seg h hs) (fun b hb => ⟨_, List.mem_of_getElem? (memL_seg hs), hb⟩)
  have hpl := segA_len hsr.is
  obtain ⟨k, hkk, hk1⟩ : ∃ k : Nat, k = (if who = 1 then s.s.s0 else s.s.s1) ∧ k < s.s.dat.length := ⟨_, rfl, by have := hso.h0; have := hso.h1; split <;> omega⟩
  have hk2 : k < s.pgs.length := by omega
  obtain ⟨l, hl⟩ : ∃ l, s.s.dat[k]? = some l := ⟨s.s.dat[k], List.getElem?_eq_getElem hk1⟩
  obtain ⟨v, hv⟩ : ∃ v, s.pgs[k]? = some v := ⟨s.pgs[k], List.getElem?_eq_getElem hk2⟩
  obtain ⟨E, e, hE, he1, he2, he3⟩ := row_slice (segA_row hsr.is)
  obtain ⟨gE, rfl, _⟩ := he3 (by omega)
  obtain ⟨F, f, rfl, hf1, hf2, _⟩ := row_slice (segA_page hsr.is hv hl).2
  have hll : l.length ≤ 256 := by have := hso.len l (List.mem_of_getElem? hl); have := hso.l2; omega
  unfold maxLen at hf2 hc2 he2
  have hp4 := hso.n4
  have hn4 : m.segs.length ≤ 4 := by simpa [MemV.abs] using hk.n4
  have c1 : ∀ hp w', St (fps []) w hp w' → w'.cell? ⟨p, 1, none⟩ = some (.slice (some ⟨gA, 0, none⟩) m.segs.length c) := fun hp w' h => by
    rw [← hA]; exact blk_cell (memA_blk (h.ro hm)) rfl
  have c2 : ∀ hp w', St (fps []) w hp w' → w'.cell? ⟨p, 0, none⟩ = some (.slice B m.ram.length d) := fun hp w' h => by
    rw [← hB]; exact blk_cell (memA_blk (h.ro hm)) rfl
  have c3 : ∀ hp w', St (fps []) w hp w' → w'.cell? ⟨gA, 0 + ((((a + 1 : Nat) : Int)) - 1).toNat, none⟩ = some (.pointer (some ⟨s.b, 0, none⟩)) := fun hp w' h => by
    have h1 := memA_row (h.ro hm)
    rw [hA] at h1
    refine row_cells h1 rfl _ _ ?_
    rw [show ((((a + 1 : Nat) : Int)) - 1).toNat = a by omega, List.getElem?_map, hs]
    rfl
  have c4 : ∀ hp w', St (fps []) w hp w' → w'.cell? ⟨s.b, 0 + 1 + ((who : Int) - 1).toNat, none⟩ = some (.int .i64 k) := fun hp w' h => by
    have h1 := segA_blk (h.ro hsr)
    refine blk_cell h1 ?_
    rcases hw with h2 | h2 <;> subst h2 <;> simp at hkk <;> rw [hkk] <;> rfl
  have c5 : ∀ hp w', St (fps []) w hp w' → w'.cell? ⟨s.b, 0, none⟩ = some (.slice (some ⟨gE, 0, none⟩) s.pgs.length e) := fun hp w' h => by
    rw [← hE]; exact blk_cell (segA_blk (h.ro hsr)) rfl
  have c6 : ∀ hp w', St (fps []) w hp w' → w'.cell? ⟨gE, 0 + ((k : Nat) : Int).toNat, none⟩ = some (.slice F l.length f) := fun hp w' h => by
    have h1 := segA_row (h.ro hsr)
    rw [hE] at h1
    exact row_cells h1 rfl _ _ hv
  have hav : areaV m who (a + 1) = some (.slice F l.length f, l, decide (k = 0)) := by
    rw [areaV, if_neg (by omega), show a + 1 - 1 = a by omega, hs]
    simp only [← hkk, hv, hl]
  by_cases hb : n > l.length ∨ at_ > l.length - n
  · rw [areaV_none hw hn hav hb]
    by_cases h1 : n > l.length
    · rcases hw with h2 | h2
      all_goals
        (repeat (first | (refine i_dst ?_; (first | (refine i_move ?_; refine l_q rfl rfl rfl (q_move rfl) ?_) | (refine i_assign ?_; refine l_q rfl rfl rfl (q_assign rfl) ?_) | (refine i_load ?_; refine l_q rfl rfl rfl (by (first | exact q_load tab rfl rfl rfl (c1 _) | exact q_load tab rfl rfl rfl (c2 _) | exact q_load tab rfl rfl rfl (c3 _) | exact q_load tab rfl rfl rfl (c4 _) | exact q_load tab rfl rfl rfl (c5 _) | exact q_load tab rfl rfl rfl (c6 _))) ?_) | (refine i_bin ?_; refine l_q rfl rfl rfl (by (first | exact q_lss rfl rfl | exact q_eql rfl rfl | exact q_neq rfl rfl | exact q_gtr rfl rfl | exact q_sub rfl rfl (by (first | exact wr_u8 (by omega) | rfl)) | exact q_eqnil tab rfl rfl rfl)) ?_) | (refine i_blt ?_; refine l_q rfl rfl rfl (by (exact q_len tab rfl rfl)) ?_) | (refine i_ix ?_; refine l_q rfl rfl rfl (by (first | exact q_indexAddr1 tab rfl rfl rfl rfl (by omega) | exact q_indexAddrA1 tab rfl rfl rfl rfl (by omega))) ?_) | refine l_q rfl rfl rfl (by (first | exact q_fieldAddr tab rfl rfl rfl rfl rfl rfl rfl | exact q_nilck rfl | exact q_conv tab rfl rfl rfl (by (first | exact wr_i64 (by omega) | rfl)) | exact q_pick_t rfl rfl | exact q_pick_f rfl rfl)) ?_)) | refine c_seq (fun K hK => ?_) | refine c_region ?_ | refine l_nil ?_ | refine t_then ?_ | (refine i_k ?_; (((refine hK _ _ ?_; clear hK)))) | refine c_block ?_ | (refine i_q ?_; (first | refine t_then_ret ?_ | refine t_block ?_)) | refine c_skip ?_ | refine c_ret ?_ | (refine i_guard ?_; (first | refine l_gt rfl rfl rfl ?_ | refine l_gf rfl rfl rfl rfl rfl rfl ?_ | (refine l_gtd rfl rfl rfl (by (first | exact decide_eq_true (by omega) | (simp; omega))) ?_) | (refine l_gfd rfl rfl rfl (by (first | exact decide_eq_false (by omega) | (simp; omega))) rfl rfl ?_))) | (refine i_cond ?_; (first | (refine c_ct rfl (by (first | rfl | ((first | (simp; done) | fail)))) ?_) | refine c_cf rfl (by (first | rfl | exact decide_eq_false (by omega))) ?_))))
        exact t_ret3 Try.results21 rfl rfl rfl ⟨rfl, rfl⟩
    · have h3 : at_ > l.length - n := by omega
      rcases hw with h2 | h2
      all_goals
        (repeat (first | (refine i_dst ?_; (first | (refine i_move ?_; refine l_q rfl rfl rfl (q_move rfl) ?_) | (refine i_assign ?_; refine l_q rfl rfl rfl (q_assign rfl) ?_) | (refine i_load ?_; refine l_q rfl rfl rfl (by (first | exact q_load tab rfl rfl rfl (c1 _) | exact q_load tab rfl rfl rfl (c2 _) | exact q_load tab rfl rfl rfl (c3 _) | exact q_load tab rfl rfl rfl (c4 _) | exact q_load tab rfl rfl rfl (c5 _) | exact q_load tab rfl rfl rfl (c6 _))) ?_) | (refine i_bin ?_; refine l_q rfl rfl rfl (by (first | exact q_lss rfl rfl | exact q_eql rfl rfl | exact q_neq rfl rfl | exact q_gtr rfl rfl | exact q_sub rfl rfl (by (first | exact wr_i64 (by omega) | exact wr_u8 (by omega) | rfl)) | exact q_eqnil tab rfl rfl rfl)) ?_) | (refine i_blt ?_; refine l_q rfl rfl rfl (by (exact q_len tab rfl rfl)) ?_) | (refine i_ix ?_; refine l_q rfl rfl rfl (by (first | exact q_indexAddr1 tab rfl rfl rfl rfl (by omega) | exact q_indexAddrA1 tab rfl rfl rfl rfl (by omega))) ?_) | refine l_q rfl rfl rfl (by (first | exact q_fieldAddr tab rfl rfl rfl rfl rfl rfl rfl | exact q_nilck rfl | exact q_conv tab rfl rfl rfl (by (first | exact wr_i64 (by omega) | rfl)) | exact q_pick_t rfl rfl | exact q_pick_f rfl rfl)) ?_)) | refine c_seq (fun K hK => ?_) | refine c_region ?_ | refine l_nil ?_ | refine t_then ?_ | (refine i_k ?_; (((refine hK _ _ ?_; clear hK)))) | refine c_block ?_ | (refine i_q ?_; (first | refine t_then_ret ?_ | refine t_block ?_)) | refine c_skip ?_ | refine c_ret ?_ | (refine i_guard ?_; (first | refine l_gt rfl rfl rfl ?_ | refine l_gf rfl rfl rfl rfl rfl rfl ?_ | (refine l_gtd rfl rfl rfl (by (first | exact decide_eq_true (by omega) | (simp; omega))) ?_) | refine l_gfd rfl rfl rfl (by (exact decide_eq_false (by omega))) rfl rfl ?_)) | (refine i_cond ?_; (first | (refine c_ct rfl (by (first | ((first | (simp; done) | fail)) | exact decide_eq_true (by omega))) ?_) | refine c_cf rfl (by (first | rfl | exact decide_eq_false (by omega))) ?_))))
        exact t_ret3 Try.results21 rfl rfl rfl ⟨rfl, rfl⟩
  · rw [areaV_some hw hn hav hb]
    rcases hw with h2 | h2
    all_goals
      (repeat (first | (refine i_dst ?_; (first | (refine i_move ?_; refine l_q rfl rfl rfl (q_move rfl) ?_) | (refine i_assign ?_; refine l_q rfl rfl rfl (q_assign rfl) ?_) | (refine i_load ?_; refine l_q rfl rfl rfl (by (first | exact q_load tab rfl rfl rfl (c1 _) | exact q_load tab rfl rfl rfl (c2 _) | exact q_load tab rfl rfl rfl (c3 _) | exact q_load tab rfl rfl rfl (c4 _) | exact q_load tab rfl rfl rfl (c5 _) | exact q_load tab rfl rfl rfl (c6 _))) ?_) | (refine i_bin ?_; refine l_q rfl rfl rfl (by (first | exact q_lss rfl rfl | exact q_eql rfl rfl | exact q_neq rfl rfl | exact q_gtr rfl rfl | exact q_add rfl rfl (by (first | exact wr_i64 (by omega) | rfl)) | exact q_sub rfl rfl (by (first | exact wr_i64 (by omega) | exact wr_u8 (by omega) | rfl)) | exact q_eqnil tab rfl rfl rfl)) ?_) | (refine i_blt ?_; refine l_q rfl rfl rfl (by (exact q_len tab rfl rfl)) ?_) | (refine i_ix ?_; refine l_q rfl rfl rfl (by (first | exact q_indexAddr1 tab rfl rfl rfl rfl (by omega) | exact q_indexAddrA1 tab rfl rfl rfl rfl (by omega))) ?_) | (refine i_sl ?_; refine l_q rfl rfl rfl (by (exact q_sliceLH tab rfl rfl rfl rfl rfl (by omega))) ?_) | refine l_q rfl rfl rfl (by (first | exact q_fieldAddr tab rfl rfl rfl rfl rfl rfl rfl | exact q_nilck rfl | exact q_conv tab rfl rfl rfl (by (first | exact wr_i64 (by omega) | rfl)) | exact q_pick_t rfl rfl | exact q_pick_f rfl rfl)) ?_)) | refine c_seq (fun K hK => ?_) | refine c_region ?_ | refine l_nil ?_ | refine t_then ?_ | (refine i_k ?_; (((refine hK _ _ ?_; clear hK)))) | refine c_block ?_ | (refine i_q ?_; (refine t_block ?_)) | refine c_skip ?_ | refine c_ret ?_ | (refine i_guard ?_; (first | refine l_gt rfl rfl rfl ?_ | refine l_gf rfl rfl rfl rfl rfl rfl ?_ | (refine l_gtd rfl rfl rfl (by (first | exact decide_eq_true (by omega) | (simp; omega))) ?_) | refine l_gfd rfl rfl rfl (by (exact decide_eq_false (by omega))) rfl rfl ?_)) | (refine i_cond ?_; (first | (refine c_ct rfl (by (((first | (simp; done) | fail)))) ?_) | refine c_cf rfl (by (first | rfl | exact decide_eq_false (by omega))) ?_))))
      refine t_ret3 Try.results21 rfl rfl rfl ⟨?_, rfl⟩
      rw [show (at_ + n).toNat - at_.toNat = n.toNat by omega]
      simp

/-- part, whole. -/
theorem part_spec (hm : Ro (fps []) w (memA p m)) (hk : MmOk m.abs) (who area : Nat) (at_ n : Int) (hw : who ≤ 255) (ha : area ≤ 255) (hn : -9223372036854775808 ≤ n ∧ n ≤ 9223372036854775807) (ha0 : 0 ≤ at_) (ha1 : at_ ≤ 4294967295) :
    Calls Try.prog 21 (partArgs p who area at_ n).toArray w (Ret w [] fun v B => v = partV m who area at_ n ∧ B = []) := by
  by_cases h1 : (who ≠ 1 ∧ who ≠ 2) ∨ n < 0
  · exact part_arg hm who area at_ n hw ha h1
  · by_cases h2 : m.segs.length < area
    · exact part_none hm who area at_ n (by omega) (by omega) ha h2
    · cases area with
      | zero => exact part_ram hm hk who at_ n (by omega) (by omega) hn.2 ha0 ha1
      | succ a => exact part_seg hm hk who a at_ n (by omega) (by omega) hn.2 ha0 ha1 (by omega) ha
theorem areaV_abs {m : MemV} {who area : Nat} {w : World} (h : (memA p m).C w) (hk : MmOk m.abs) : (∃ v l f, areaV m who area = some (v, l, f) ∧ areaM m.abs who area = some (l, f) ∧ (bytesA v l).C w ∧ (∀ b, (bytesA v l).S b → (memA p m).S b) ∧ l.length ≤ 1024) ∨ (areaV m who area = none ∧ areaM m.abs who area = none) := by
  unfold areaV areaM
  by_cases h0 : area = 0
  · rw [if_pos h0, if_pos h0]
    exact .inl ⟨_, _, _, rfl, rfl, memA_ram h, fun b hb => ⟨_, List.mem_of_getElem? (i := 1) rfl, hb⟩, hk.ram⟩
  · rw [if_neg h0, if_neg h0]
    cases hs : m.segs[area - 1]? with
    | none => right; simp [MemV.abs, hs]
    | some s =>
      left
      have hso := hk.segs s.s (List.mem_of_getElem? (abs_seg hs))
      have hsa := memA_seg h hs
      have hpl := segA_len hsa
      obtain ⟨k, hkk, hk1⟩ : ∃ k : Nat, k = (if who = 1 then s.s.s0 else s.s.s1) ∧ k < s.s.dat.length := ⟨_, rfl, by have := hso.h0; have := hso.h1; split <;> omega⟩
      obtain ⟨l, hl⟩ : ∃ l, s.s.dat[k]? = some l := ⟨s.s.dat[k], List.getElem?_eq_getElem hk1⟩
      obtain ⟨v, hv⟩ : ∃ v, s.pgs[k]? = some v := ⟨s.pgs[k]'(by omega), List.getElem?_eq_getElem (by omega)⟩
      refine ⟨v, l, decide (k = 0), ?_, ?_, segA_page hsa hv hl, fun b hb => ⟨_, List.mem_of_getElem? (memL_seg hs), ⟨_, List.mem_of_getElem? (segL_page hv hl), hb⟩⟩, by have := hso.len l (List.mem_of_getElem? hl); have := hso.l2; omega⟩
      · simp only [← hkk, hl, hv]
      · rw [abs_seg hs]
        simp only [← hkk, hl]
end
end Go.Proofs.Ytboccjdncdaakaa

/-
  Layer 8: slices.Clone, Read, Page.
-/

set_option linter.unusedVariables false
set_option maxRecDepth 100000
namespace Go.Proofs.Ytboccjdncdaakaa
open Go.RowKit
attribute [local irreducible] TL TC TQ TK TO Qt TA
set_option maxHeartbeats 4000000 in
theorem clone_spec (A : Option Addr) (n c : Nat) (l : List Int) (w : World) (hr : Ro (fps []) w (roB A n l)) (hn : n ≤ 1000000) :
    Calls Try.prog 20 #[.slice A n c] w (Ret w [] fun v B => ∃ A' c', v = .slice A' l.length c' ∧ B = [bytesA (.slice A' l.length c') l]) := by
  refine enter (vs := [.slice A n c]) Try.func20 rfl Try.ntmps20 rfl (Hold.nil w) ?_
  have hoct := roB_oct hr.is
  have hlen := roB_len hr.is
  cases A with
  | none =>
    have hl : l = [] := by
      rcases Nat.eq_zero_or_pos n with h | h
      · exact List.eq_nil_of_length_eq_zero (by omega)
      · obtain ⟨b, o, h1, _⟩ := hr.is.2.2 h
        cases h1
    subst hl
    (repeat (first | (refine i_dst ?_; (first | (refine i_move ?_; refine l_q rfl rfl rfl (q_move rfl) ?_) | (refine i_assign ?_; refine l_q rfl rfl rfl (q_assign rfl) ?_) | (refine i_bin ?_; refine l_q rfl rfl rfl (by (exact q_eqsl tab rfl rfl rfl)) ?_))) | refine c_seq (fun K hK => ?_) | refine c_region ?_ | refine l_nil ?_ | refine t_then ?_ | (refine i_k ?_; (((refine hK _ _ ?_; clear hK)))) | (refine i_q ?_; (refine t_then_ret ?_)) | refine c_ret ?_ | (refine i_cond ?_; (refine c_ct rfl (by (rfl)) ?_))))
    refine t_hp (hp' := [bytesA (.slice none 0 0) []]) (fun w h => ?_) (t_ret1 Try.results20 rfl ⟨none, 0, rfl, rfl⟩)
    exact h.new (Kept.refl _ _) ⟨Oct.nil, World.ownsRow_nil _ _ _ _⟩ (fun b hb => by cases hb)
  | some a =>
    (repeat (first | (refine i_dst ?_; (first | (refine i_move ?_; refine l_q rfl rfl rfl (q_move rfl) ?_) | (refine i_assign ?_; refine l_q rfl rfl rfl (q_assign rfl) ?_) | (refine i_bin ?_; refine l_q rfl rfl rfl (by (exact q_eqsl tab rfl rfl rfl)) ?_))) | refine c_seq (fun K hK => ?_) | refine c_region ?_ | refine l_nil ?_ | refine t_then ?_ | (refine i_k ?_; (((refine hK _ _ ?_; clear hK)))) | refine c_skip ?_ | (refine i_cond ?_; (refine c_cf rfl (by (rfl)) ?_))))
    refine l_op rfl (fun K hK => e_buildSlice (l := []) (e := 5) rfl rfl (fun w => by kernel_rfl) (fun b => hK _ _ ?_))
    clear hK
    (repeat ((refine i_dst ?_; ((refine i_move ?_; refine l_q rfl rfl rfl (q_move rfl) ?_)))))
    refine l_hp (hp' := [row 5 1 (.slice (some ⟨b, 0, none⟩) 0 0) 0 []]) (fun w h => h.see (i := 0) rfl (fun h => row_of_blk h 1 0 0 (Nat.le_refl _) (Nat.zero_le _) rfl [] rfl) (fun b hb => by injection hb with hb; exact hb.symm)) ?_
    refine l_op rfl (fun K hK => e_append tab (i := 0) rfl rfl rfl rfl rowB (news := bv l) (fun w h => ?_) (bv_one l) ?_ ?_ (fun A' c' hA1 hA2 => hK _ _ ?_))
    · rw [Nat.mul_one]; exact roB_src (h.ro hr)
    · simp only [maxLen]; omega
    · omega
    clear hK
    (repeat (first | (refine i_dst ?_; ((refine i_assign ?_; refine l_q rfl rfl rfl (q_assign rfl) ?_))) | refine l_nil ?_ | refine t_then ?_ | (refine i_k ?_; (((refine hK _ _ ?_; clear hK)))) | refine c_ret ?_))
    have e0 : 0 + n = l.length := by omega
    rw [e0]
    refine t_hp (hp' := [bytesA (.slice A' l.length c') l]) (fun w h => ?_) (t_ret1 Try.results20 rfl ⟨A', c', rfl, rfl⟩)
    exact h.see (i := 0) rfl (fun h => ⟨hoct, by simpa using h⟩) (fun b hb => hb)

/-- What Read tells. -/
def readM (M : Mm) (who area : Nat) (at_ n : Int) : List Int × Int :=
  if (who ≠ 1 ∧ who ≠ 2) ∨ n < 0 then ([], 1)
  else match areaM M who area with
    | none => ([], 80)
    | some (l, _) => if n > l.length ∨ at_ > l.length - n then ([], 80) else ((l.drop at_.toNat).take n.toNat, 0)
theorem roB_cut {A : Option Addr} {n c a k : Nat} {l : List Int} {w : World} (h : (roB A n l).C w) (hc : n ≤ c) (hk : a + k ≤ n) : (roB (cutA A c a 1) k ((l.drop a).take k)).C w := by
  refine ⟨by rw [List.length_take, List.length_drop, h.1]; omega, (h.2.1.drop a).take k, fun hk0 => ?_⟩
  obtain ⟨b, o, rfl, h2, h3⟩ := h.2.2 (by omega)
  refine ⟨b, o + a, ?_, h2, fun j u hu => ?_⟩
  · rw [cutA, if_neg (by omega)]
    simp [Addr.add_lit]
  · have hj : j < k := by
      have := (List.getElem?_eq_some_iff.1 hu).1
      rw [length_bv, List.length_take] at this
      omega
    rw [show o + a + j = o + (a + j) by omega]
    refine h3 (a + j) u ?_
    rw [← hu]
    simp [bv, hj, List.getElem?_drop]
theorem roB_cutS {A : Option Addr} {n c a k : Nat} {l l' : List Int} {w : World} (h : (roB A n l).C w) (hc : n ≤ c) (hk : a + k ≤ n) (b : Nat) (hb : (roB (cutA A c a 1) k l').S b) : (roB A n l).S b := by
  obtain ⟨h1, o, h2⟩ := hb
  obtain ⟨b', o', rfl, _⟩ := h.2.2 (by omega)
  refine ⟨by omega, o', ?_⟩
  rw [cutA, if_neg (by omega)] at h2
  simp [Addr.add_lit] at h2
  rw [h2.1]
section
variable {p : Nat} {m : MemV} {w : World}
/-- What part leaves for Read. -/
theorem part_ro (h : (memA p m).C w) (hk : MmOk m.abs) (who area : Nat) (at_ n : Int) (ha0 : 0 ≤ at_) : ∃ A k c l e f, partV m who area at_ n = .tuple #[.slice A k c, .bool f, .int .i64 e] ∧ (l, e) = readM m.abs who area at_ n ∧ (roB A k l).C w ∧ (∀ b, (roB A k l).S b → (memA p m).S b) ∧ k ≤ 1000000 := by
  unfold partV readM
  by_cases h1 : (who ≠ 1 ∧ who ≠ 2) ∨ n < 0
  · rw [if_pos h1, if_pos h1]
    exact ⟨_, _, _, _, _, _, rfl, rfl, ⟨rfl, Oct.nil, fun h => by omega⟩, fun b h => by have := h.1; omega, by omega⟩
  · rw [if_neg h1, if_neg h1]
    rcases areaV_abs (who := who) (area := area) h hk with ⟨v, l, f, h2, h3, h4, h8, h9⟩ | ⟨h2, h3⟩
    · rw [h2, h3]
      dsimp only
      by_cases h5 : n > l.length ∨ at_ > l.length - n
      · rw [if_pos h5, if_pos h5]
        exact ⟨_, _, _, _, _, _, rfl, rfl, ⟨rfl, Oct.nil, fun h => by omega⟩, fun b h => by have := h.1; omega, by omega⟩
      · rw [if_neg h5, if_neg h5]
        obtain ⟨A, c, rfl, hc, hm, h6, h7⟩ := bytesA_ro h4
        refine ⟨_, _, _, _, _, _, rfl, rfl, roB_cut h6 hc (by omega), fun b hb => ?_, ?_⟩
        · exact h8 b (h7 b (roB_cutS h6 hc (by omega) b hb))
        · omega
    · rw [h2, h3]
      exact ⟨_, _, _, _, _, _, rfl, rfl, ⟨rfl, Oct.nil, fun h => by omega⟩, fun b h => by have := h.1; omega, by omega⟩
set_option maxHeartbeats 4000000 in
theorem read_spec (hm : Ro (fps []) w (memA p m)) (hk : MmOk m.abs) (who area : Nat) (at_ n : Int) (hw : who ≤ 255) (ha : area ≤ 255) (hn : -9223372036854775808 ≤ n ∧ n ≤ 9223372036854775807) (ha0 : 0 ≤ at_) (ha1 : at_ ≤ 4294967295) :
    Calls Try.prog 9 (partArgs p who area at_ n).toArray w (Ret w [] fun v B => ∃ A c, v = .tuple #[.slice A (readM m.abs who area at_ n).1.length c, .int .i64 (readM m.abs who area at_ n).2] ∧ B = [bytesA (.slice A (readM m.abs who area at_ n).1.length c) (readM m.abs who area at_ n).1]) := by
  refine enter Try.func9 rfl Try.ntmps9 rfl (Hold.nil w) ?_
  obtain ⟨A, k, c, l, e, f, h1, h2, h3, h4, h5⟩ := part_ro hm.is hk who area at_ n ha0
  rw [← h2]
  have hr : Ro (fps []) w (roB A k l) := hm.sub (fun _ => h3) h4
  (repeat (first | (refine i_dst ?_; (first | (refine i_move ?_; refine l_q rfl rfl rfl (q_move rfl) ?_) | (refine i_assign ?_; refine l_q rfl rfl rfl (q_assign rfl) ?_))) | refine c_seq (fun K hK => ?_) | refine c_region ?_ | refine l_nil ?_ | refine t_then ?_ | (refine i_k ?_; (((refine hK _ _ ?_; clear hK))))))
  (refine l_op rfl (fun K hK => e_call0 rfl rfl Try.func21 rfl (by decide) (fun w' h => part_spec (roOf0 h hm) hk who area at_ n hw ha hn ha0 ha1) (fun v B hv => hK _ _ ?_)); clear hK; obtain ⟨rfl, rfl⟩ := hv)
  rw [h1]
  (repeat (first | (refine i_dst ?_; (first | (refine i_move ?_; refine l_q rfl rfl rfl (q_move rfl) ?_) | (refine i_assign ?_; refine l_q rfl rfl rfl (q_assign rfl) ?_) | refine l_q rfl rfl rfl (by (exact q_extract rfl rfl)) ?_)) | refine c_seq (fun K hK => ?_) | refine c_region ?_ | refine l_nil ?_ | refine t_then ?_ | (refine i_k ?_; (((refine hK _ _ ?_; clear hK))))))
  (refine l_op rfl (fun K hK => e_call0 rfl rfl Try.func20 rfl (by decide) (fun w' h => clone_spec A k c l w' (roOf0 h hr) h5) (fun v B hv => hK _ _ ?_)); clear hK; obtain ⟨A2, c2, rfl, rfl⟩ := hv)
  (repeat (first | (refine i_dst ?_; (first | (refine i_move ?_; refine l_q rfl rfl rfl (q_move rfl) ?_) | (refine i_assign ?_; refine l_q rfl rfl rfl (q_assign rfl) ?_))) | refine l_nil ?_ | refine t_then ?_ | (refine i_k ?_; (((refine hK _ _ ?_; clear hK)))) | refine c_ret ?_))
  exact t_ret2 Try.results9 rfl rfl ⟨A2, c2, rfl, rfl⟩
end
end Go.Proofs.Ytboccjdncdaakaa

/-
  Layer 8: Write, walked.
-/

set_option linter.unusedVariables false
set_option maxRecDepth 100000
namespace Go.Proofs.Ytboccjdncdaakaa
open Go.RowKit
attribute [local irreducible] TL TC TQ TK TO Qt TA
/-- Bytes put into others, from a place on. -/
def spl (l : List Int) (o : Nat) (x : List Int) : List Int := l.take o ++ x ++ l.drop (o + x.length)
theorem length_spl {l x : List Int} {o : Nat} (h : o + x.length ≤ l.length) : (spl l o x).length = l.length := by simp [spl]; omega
theorem Oct.spl {l x : List Int} {o : Nat} (h : Oct l) (hx : Oct x) : Oct (spl l o x) := ((h.take o).append hx).append (h.drop _)
theorem setAt_bv {l x : List Int} {o : Nat} {junk : List Value} (h : o + x.length ≤ l.length) : setAt (bv l ++ junk) o (bv x) = bv (spl l o x) ++ junk := by
  rw [setAt_eq _ _ _ (by simp; omega)]
  simp only [spl, bv_append, length_bv]
  rw [List.take_append_of_le_length (by simp; omega), List.drop_append_of_le_length (by simp; omega)]
  simp [bv]
/-- Memory after an area has changed. -/
def setArea (M : Mm) (who area : Nat) (l : List Int) : Mm :=
  if area = 0 then { M with ram := l }
  else match M.segs[area - 1]? with
    | none => M
    | some s => { M with segs := M.segs.set (area - 1) { s with dat := s.dat.set (if who = 1 then s.s0 else s.s1) l } }
/-- What Write leaves and tells. -/
def writeM (M : Mm) (who area : Nat) (at_ : Int) (x : List Int) : Mm × Int :=
  if who ≠ 1 ∧ who ≠ 2 then (M, 1)
  else match areaM M who area with
    | none => (M, 80)
    | some (l, f) =>
      if (x.length : Int) > l.length ∨ at_ > l.length - x.length then (M, 80)
      else if x.length = 0 then (M, 0)
      else if f then (M, 81)
      else (setArea M who area (spl l at_.toNat x), 0)
theorem setArea_ok {M : Mm} {who area : Nat} {l l' : List Int} {f : Bool} (hk : MmOk M) (ha : areaM M who area = some (l, f)) (hl : l'.length = l.length) : MmOk (setArea M who area l') := by
  unfold setArea
  unfold areaM at ha
  by_cases h0 : area = 0
  · rw [if_pos h0]
    rw [if_pos h0] at ha
    injection ha with ha
    injection ha with ha _
    exact ⟨by show l'.length ≤ 1024; rw [hl, ← ha]; exact hk.ram, hk.n4, hk.segs⟩
  · rw [if_neg h0]
    rw [if_neg h0] at ha
    cases hs : M.segs[area - 1]? with
    | none => rw [hs] at ha; cases ha
    | some s =>
      rw [hs] at ha
      dsimp only at ha ⊢
      have hso := hk.segs s (List.mem_of_getElem? hs)
      generalize (if who = 1 then s.s0 else s.s1) = k at *
      refine ⟨hk.ram, by simpa using hk.n4, fun t ht => ?_⟩
      rcases List.mem_or_eq_of_mem_set ht with h | h
      · exact hk.segs t h
      · subst h
        refine ⟨by simpa using hso.h0, by simpa using hso.h1, by simpa using hso.n4, hso.l1, hso.l2, fun x hx => ?_⟩
        rcases List.mem_or_eq_of_mem_set hx with h | h
        · exact hso.len x h
        · subst h
          cases hd : s.dat[k]? with
          | none => rw [hd] at ha; cases ha
          | some y =>
            rw [hd] at ha
            injection ha with ha
            injection ha with ha _
            show x.length = s.ln
            rw [hl, ← ha]
            exact hso.len y (List.mem_of_getElem? hd)
theorem writeM_ok {M : Mm} {who area : Nat} {at_ : Int} {x : List Int} (hk : MmOk M) (h0 : 0 ≤ at_) : MmOk (writeM M who area at_ x).1 := by
  unfold writeM
  split
  · exact hk
  · split
    · exact hk
    · rename_i l f ha
      split
      · exact hk
      · split
        · exact hk
        · split
          · exact hk
          · exact setArea_ok hk ha (length_spl (by omega))

section
variable {p : Nat} {m : MemV} {w : World}
/-- Of an object of bytes: laid open, and shut. -/
theorem bytesA_open {S : Nat → Prop} {w0 w : World} {hp : List Asn} (h : St S w0 hp w) {i : Nat} {A : Option Addr} {k c : Nat} {l : List Int} (hi : hp[i]? = some (bytesA (.slice A k c) l)) (hk : 0 < l.length) : ∃ x : Nat × List Value, (A = some ⟨x.1, 0, none⟩ ∧ k = l.length ∧ l.length ≤ c ∧ c ≤ maxLen ∧ (bv l ++ x.2).length = c ∧ Oct l) ∧ St S w0 (hp.set i (blk x.1 (bv l ++ x.2) 5)) w := by
  have h1 := h.get hi
  obtain ⟨g, cap, junk, h2, h3, h4, h5, h6⟩ := row_blk h1.2 hk
  injection h2 with h2 h7 h8
  subst h8
  refine ⟨(g, junk), ⟨h2, h7, h3, h4, by simpa using h5, h1.1⟩, h.see hi (fun _ => h6) (fun b hb => ?_)⟩
  show (Value.slice A k c).ownBlock = some b
  have : b = g := hb
  rw [h2, this]
  rfl
theorem bytesA_shut {g c : Nat} {l : List Int} {junk : List Value} {w : World} (h : (blk g (bv l ++ junk) 5).C w) (ho : Oct l) (hl : (bv l ++ junk).length = c) (hc : c ≤ maxLen) : (bytesA (.slice (some ⟨g, 0, none⟩) l.length c) l).C w :=
  ⟨ho, row_of_blk h 1 l.length c (by rw [← hl]; simp) hc (by simpa using hl) _ (by simp)⟩

def SegV.put (s : SegV) (k : Nat) (l : List Int) : SegV := ⟨s.b, s.pv, s.pgs, ⟨s.s.ln, s.s.dat.set k l, s.s.s0, s.s.s1⟩⟩
theorem segL_set {s : SegV} {k : Nat} {v : Value} {l' : List Int} (hv : s.pgs[k]? = some v) (hk : k < s.s.dat.length) : (segL s).set (3 + k) (bytesA v l') = segL (s.put k l') := by
  unfold segL
  rw [List.set_append, if_neg (by simp)]
  have h1 : 3 + k - [blk s.b [s.pv, .int .i64 s.s.s0, .int .i64 s.s.s1] 71, row 38 1 s.pv s.pgs.length s.pgs, pureA (s.pgs.length = s.s.dat.length)].length = k := by simp
  rw [h1]
  have h2 : (List.zipWith bytesA s.pgs s.s.dat).set k (bytesA v l') = List.zipWith bytesA s.pgs (s.s.dat.set k l') := by
    apply List.ext_getElem?
    intro j
    rw [List.getElem?_set]
    by_cases hj : k = j
    · subst hj
      have hl : k < (List.zipWith bytesA s.pgs s.s.dat).length := by
        have := (List.getElem?_eq_some_iff.1 hv).1
        simp
        omega
      rw [if_pos rfl, if_pos hl, List.getElem?_zipWith, hv, List.getElem?_set_self hk]
    · rw [if_neg hj, List.getElem?_zipWith, List.getElem?_zipWith, List.getElem?_set_ne hj]
  rw [h2]
  simp [SegV.put]
theorem memL_set {p : Nat} {m : MemV} {a : Nat} {s s' : SegV} (hs : m.segs[a]? = some s) (hb : s'.b = s.b) : (memL p m).set (3 + a) (segA s') = memL p { m with segs := m.segs.set a s' } := by
  unfold memL
  rw [List.set_append, if_neg (by simp)]
  have h1 : 3 + a - [blk p [m.rv, m.sv] 65, bytesA m.rv m.ram, row 68 1 m.sv m.segs.length (m.segs.map fun s => .pointer (some ⟨s.b, 0, none⟩))].length = a := by simp
  rw [h1]
  have h2 : (m.segs.set a s').map (fun s => Value.pointer (some ⟨s.b, 0, none⟩)) = m.segs.map (fun s => Value.pointer (some ⟨s.b, 0, none⟩)) := by
    rw [List.map_set, hb]
    apply List.ext_getElem?
    intro j
    rw [List.getElem?_set]
    by_cases hj : a = j
    · subst hj
      have := (List.getElem?_eq_some_iff.1 hs).1
      rw [if_pos rfl, if_pos (by simpa using this), List.getElem?_map, hs]
      rfl
    · rw [if_neg hj]
  have h3 : (m.segs.map segA).set a (segA s') = (m.segs.set a s').map segA := by rw [List.map_set]
  rw [h3]
  simp only [h2, List.length_set]
theorem mem_focus {p : Nat} {m : MemV} {w : World} (h : (memA p m).C w) (hk : MmOk m.abs) {who area : Nat} {v : Value} {l : List Int} {f : Bool} (ha : areaV m who area = some (v, l, f)) :
    ∃ Cs : List Asn, (∀ S w0 F w, St S w0 (memA p m :: F) w → St S w0 (bytesA v l :: (Cs ++ F)) w) ∧ ∀ l', ∃ m', m'.abs = setArea m.abs who area l' ∧ ∀ S w0 F w, St S w0 (bytesA v l' :: (Cs ++ F)) w → St S w0 (memA p m' :: F) w := by
  unfold areaV at ha
  by_cases h0 : area = 0
  · rw [if_pos h0] at ha
    simp only [Option.some.injEq, Prod.mk.injEq] at ha
    obtain ⟨rfl, rfl, rfl⟩ := ha
    refine ⟨[starL ((memL p m).set 1 emp)], fun S w0 F w hS => st_take (j := 0) (i := 1) hS rfl rfl, fun l' => ⟨{ m with ram := l' }, ?_, fun S w0 F w hS => ?_⟩⟩
    · rw [setArea, if_pos h0]
      rfl
    · exact st_put (j := 0) (i := 1) hS rfl rfl
  · rw [if_neg h0] at ha
    cases hs : m.segs[area - 1]? with
    | none => rw [hs] at ha; cases ha
    | some s =>
      rw [hs] at ha
      dsimp only at ha
      obtain ⟨k, hkk⟩ : ∃ k : Nat, k = (if who = 1 then s.s.s0 else s.s.s1) := ⟨_, rfl⟩
      rw [← hkk] at ha
      cases hv : s.pgs[k]? with
      | none => rw [hv] at ha; cases ha
      | some v' =>
        cases hl : s.s.dat[k]? with
        | none => rw [hv, hl] at ha; cases ha
        | some y =>
          rw [hv, hl] at ha
          simp only [Option.some.injEq, Prod.mk.injEq] at ha
          obtain ⟨rfl, rfl, rfl⟩ := ha
          have hkd : k < s.s.dat.length := (List.getElem?_eq_some_iff.1 hl).1
          refine ⟨[starL ((segL s).set (3 + k) emp), starL ((memL p m).set (3 + (area - 1)) emp)], fun S w0 F w hS => ?_, fun l' => ⟨{ m with segs := m.segs.set (area - 1) (s.put k l') }, ?_, fun S w0 F w hS => ?_⟩⟩
          · exact st_take (j := 0) (i := 3 + k) (st_take (j := 0) (i := 3 + (area - 1)) hS rfl (memL_seg hs)) rfl (segL_page hv hl)
          · rw [setArea, if_neg h0, abs_seg hs]
            simp only [MemV.abs, List.map_set, hkk, SegV.put]
          · have h1 := st_put (j := 0) (i := 3 + k) hS rfl (by
              rw [List.getElem?_set_self]
              exact (List.getElem?_eq_some_iff.1 (segL_page hv hl)).1)
            rw [List.set_set, segL_set hv hkd] at h1
            have h2 := st_put (j := 0) (i := 3 + (area - 1)) (l := (memL p m).set (3 + (area - 1)) emp) (Y := segA (s.put k l')) (hp := starL ((memL p m).set (3 + (area - 1)) emp) :: F) h1 rfl (by
              rw [List.getElem?_set_self]
              exact (List.getElem?_eq_some_iff.1 (memL_seg hs)).1)
            rw [List.set_set, memL_set (s' := s.put k l') hs rfl] at h2
            exact h2
abbrev writeArgs (p : Nat) (who area : Nat) (at_ : Int) (X : Option Addr) (k c : Nat) : List Value := [.pointer (some ⟨p, 0, none⟩), .int .u8 who, .int .u8 area, .int .u32 at_, .slice X k c]
def WriteR (p : Nat) (M : Mm × Int) (v : Value) (B : List Asn) : Prop := ∃ m', B = [memA p m'] ∧ m'.abs = M.1 ∧ v = .int .i64 M.2

set_option maxHeartbeats 4000000 in
theorem write_spec (hA : Hold [memA p m] w) (hk : MmOk m.abs) (who area : Nat) (at_ : Int) (X : Option Addr) (k c : Nat) (xs : List Int) (hx : Ro (fps [memA p m]) w (roB X k xs)) (hkm : k ≤ 1000000) (hw : who ≤ 255) (ha : area ≤ 255) (ha0 : 0 ≤ at_) (ha1 : at_ ≤ 4294967295) :
    Calls Try.prog 11 (writeArgs p who area at_ X k c).toArray w (Ret w [memA p m] (WriteR p (writeM m.abs who area at_ xs))) := by
  refine enter Try.func11 rfl Try.ntmps11 rfl hA ?_
  have hxl := roB_len hx.is
  have hxo := roB_oct hx.is
  (repeat (first | (refine i_dst ?_; (first | (refine i_move ?_; refine l_q rfl rfl rfl (q_move rfl) ?_) | (refine i_assign ?_; refine l_q rfl rfl rfl (q_assign rfl) ?_) | (refine i_blt ?_; refine l_q rfl rfl rfl (by (exact q_len tab rfl rfl)) ?_))) | refine c_seq (fun K hK => ?_) | refine c_region ?_ | refine l_nil ?_ | refine t_then ?_ | (refine i_k ?_; (((refine hK _ _ ?_; clear hK))))))
  (refine l_op rfl (fun K hK => e_call0 rfl rfl Try.func21 rfl (by decide) (fun w' h => part_spec (roHp0 h (i := 0) rfl) hk who area at_ k hw ha (by omega) ha0 ha1) (fun v B hv => hK _ _ ?_)); clear hK; obtain ⟨rfl, rfl⟩ := hv)
  have hh : (memA p m).C w := hA.all _ (by simp)
  by_cases h1 : who ≠ 1 ∧ who ≠ 2
  · have e1 : partV m who area at_ k = .tuple #[.slice none 0 0, .bool false, .int .i64 1] := by rw [partV, if_pos (.inl h1)]
    have e2 : writeM m.abs who area at_ xs = (m.abs, 1) := by rw [writeM, if_pos h1]
    rw [e1]
    (repeat (first | (refine i_dst ?_; (first | (refine i_move ?_; refine l_q rfl rfl rfl (q_move rfl) ?_) | (refine i_assign ?_; refine l_q rfl rfl rfl (q_assign rfl) ?_) | (refine i_bin ?_; refine l_q rfl rfl rfl (by (exact q_neq rfl rfl)) ?_) | refine l_q rfl rfl rfl (by (exact q_extract rfl rfl)) ?_)) | refine c_seq (fun K hK => ?_) | refine c_region ?_ | refine l_nil ?_ | refine t_then ?_ | (refine i_k ?_; (((refine hK _ _ ?_; clear hK)))) | refine c_block ?_ | (refine i_q ?_; (first | refine t_then_ret ?_ | refine t_block_ret ?_)) | refine c_ret ?_ | (refine i_cond ?_; (refine c_ct rfl (by (rfl)) ?_))))
    exact t_ret1 Try.results11 rfl ⟨m, rfl, by rw [e2], by rw [e2]⟩
  · rcases areaV_abs (who := who) (area := area) hh hk with ⟨v, l, f, h2, h3, h4, h8, h9⟩ | ⟨h2, h3⟩
    · by_cases hb : (k : Int) > l.length ∨ at_ > l.length - (k : Int)
      · have e1 := areaV_none (by omega) (by omega) h2 hb
        have e2 : writeM m.abs who area at_ xs = (m.abs, 80) := by rw [writeM, if_neg h1, h3]; exact if_pos (by rw [hxl]; exact hb)
        rw [e1]
        (repeat (first | (refine i_dst ?_; (first | (refine i_move ?_; refine l_q rfl rfl rfl (q_move rfl) ?_) | (refine i_assign ?_; refine l_q rfl rfl rfl (q_assign rfl) ?_) | (refine i_bin ?_; refine l_q rfl rfl rfl (by (exact q_neq rfl rfl)) ?_) | refine l_q rfl rfl rfl (by (exact q_extract rfl rfl)) ?_)) | refine c_seq (fun K hK => ?_) | refine c_region ?_ | refine l_nil ?_ | refine t_then ?_ | (refine i_k ?_; (((refine hK _ _ ?_; clear hK)))) | refine c_block ?_ | (refine i_q ?_; (first | refine t_then_ret ?_ | refine t_block_ret ?_)) | refine c_ret ?_ | (refine i_cond ?_; (refine c_ct rfl (by (rfl)) ?_))))
        exact t_ret1 Try.results11 rfl ⟨m, rfl, by rw [e2], by rw [e2]⟩
      · obtain ⟨A, q, rfl, hc, hcm, h6, h7⟩ := bytesA_ro h4
        have e1 := areaV_some (by omega) (by omega) h2 hb
        rw [e1]
        by_cases hk0 : k = 0
        · have e2 : writeM m.abs who area at_ xs = (m.abs, 0) := by
            rw [writeM, if_neg h1, h3]
            dsimp only
            rw [if_neg (by rw [hxl]; exact hb), if_pos (by omega)]
          cases f
          · (repeat (first | (refine i_dst ?_; (first | (refine i_move ?_; refine l_q rfl rfl rfl (q_move rfl) ?_) | (refine i_assign ?_; refine l_q rfl rfl rfl (q_assign rfl) ?_) | (refine i_bin ?_; refine l_q rfl rfl rfl (by (exact q_neq rfl rfl)) ?_) | refine l_q rfl rfl rfl (by (first | exact q_extract rfl rfl | exact q_pick_f rfl rfl)) ?_)) | refine c_seq (fun K hK => ?_) | refine c_region ?_ | refine l_nil ?_ | refine t_then ?_ | (refine i_k ?_; (((refine hK _ _ ?_; clear hK)))) | refine c_block ?_ | (refine i_q ?_; (refine t_block ?_)) | refine c_skip ?_ | (refine i_guard ?_; (refine l_gf rfl rfl rfl rfl rfl rfl ?_)) | (refine i_cond ?_; (refine c_cf rfl (by (rfl)) ?_))))
            refine l_op rfl (fun K hK => e_copy0 tab rfl rfl rfl rfl rfl (by omega) (hK _ _ ?_))
            clear hK
            (repeat (first | (refine i_dst ?_; ((refine i_assign ?_; refine l_q rfl rfl rfl (q_assign rfl) ?_))) | refine c_seq (fun K hK => ?_) | refine c_region ?_ | refine l_nil ?_ | refine t_then ?_ | (refine i_k ?_; (((refine hK _ _ ?_; clear hK)))) | refine c_ret ?_))
            exact t_ret1 Try.results11 rfl ⟨m, rfl, by rw [e2], by rw [e2]⟩
          · (repeat (first | (refine i_dst ?_; (first | (refine i_move ?_; refine l_q rfl rfl rfl (q_move rfl) ?_) | (refine i_assign ?_; refine l_q rfl rfl rfl (q_assign rfl) ?_) | (refine i_bin ?_; refine l_q rfl rfl rfl (by (first | exact q_neq rfl rfl | exact q_gtr rfl rfl)) ?_) | (refine i_blt ?_; refine l_q rfl rfl rfl (by (exact q_len tab rfl rfl)) ?_) | refine l_q rfl rfl rfl (by (first | exact q_extract rfl rfl | exact q_pick_t rfl rfl)) ?_)) | refine c_seq (fun K hK => ?_) | refine c_region ?_ | refine l_nil ?_ | refine t_then ?_ | (refine i_k ?_; (((refine hK _ _ ?_; clear hK)))) | refine c_block ?_ | (refine i_q ?_; (refine t_block ?_)) | refine c_skip ?_ | (refine i_guard ?_; (refine l_gt rfl rfl rfl ?_)) | (refine i_cond ?_; (refine c_cf rfl (by (first | rfl | exact decide_eq_false (by omega))) ?_))))
            refine l_op rfl (fun K hK => e_copy0 tab rfl rfl rfl rfl rfl (by omega) (hK _ _ ?_))
            clear hK
            (repeat (first | (refine i_dst ?_; ((refine i_assign ?_; refine l_q rfl rfl rfl (q_assign rfl) ?_))) | refine c_seq (fun K hK => ?_) | refine c_region ?_ | refine l_nil ?_ | refine t_then ?_ | (refine i_k ?_; (((refine hK _ _ ?_; clear hK)))) | refine c_ret ?_))
            exact t_ret1 Try.results11 rfl ⟨m, rfl, by rw [e2], by rw [e2]⟩
        · cases f with
          | true =>
            have e2 : writeM m.abs who area at_ xs = (m.abs, 81) := by
              rw [writeM, if_neg h1, h3]
              dsimp only
              rw [if_neg (by rw [hxl]; exact hb), if_neg (by omega), if_pos rfl]
            (repeat (first | (refine i_dst ?_; (first | (refine i_move ?_; refine l_q rfl rfl rfl (q_move rfl) ?_) | (refine i_assign ?_; refine l_q rfl rfl rfl (q_assign rfl) ?_) | (refine i_bin ?_; refine l_q rfl rfl rfl (by (first | exact q_neq rfl rfl | exact q_gtr rfl rfl)) ?_) | (refine i_blt ?_; refine l_q rfl rfl rfl (by (exact q_len tab rfl rfl)) ?_) | refine l_q rfl rfl rfl (by (first | exact q_extract rfl rfl | exact q_pick_t rfl rfl)) ?_)) | refine c_seq (fun K hK => ?_) | refine c_region ?_ | refine l_nil ?_ | refine t_then ?_ | (refine i_k ?_; (((refine hK _ _ ?_; clear hK)))) | refine c_block ?_ | (refine i_q ?_; (first | refine t_then_ret ?_ | refine t_block_ret ?_)) | refine c_ret ?_ | (refine i_guard ?_; (refine l_gt rfl rfl rfl ?_)) | (refine i_cond ?_; (first | refine c_ct rfl (by (exact decide_eq_true (by omega))) ?_ | refine c_cf rfl (by (rfl)) ?_))))
            exact t_ret1 Try.results11 rfl ⟨m, rfl, by rw [e2], by rw [e2]⟩
          | false =>
            have e2 : writeM m.abs who area at_ xs = (setArea m.abs who area (spl l at_.toNat xs), 0) := by
              rw [writeM, if_neg h1, h3]
              dsimp only
              rw [if_neg (by rw [hxl]; exact hb), if_neg (by omega), if_neg (by simp)]
            (repeat (first | (refine i_dst ?_; (first | (refine i_move ?_; refine l_q rfl rfl rfl (q_move rfl) ?_) | (refine i_assign ?_; refine l_q rfl rfl rfl (q_assign rfl) ?_) | (refine i_bin ?_; refine l_q rfl rfl rfl (by (exact q_neq rfl rfl)) ?_) | refine l_q rfl rfl rfl (by (first | exact q_extract rfl rfl | exact q_pick_f rfl rfl)) ?_)) | refine c_seq (fun K hK => ?_) | refine c_region ?_ | refine l_nil ?_ | refine t_then ?_ | (refine i_k ?_; (((refine hK _ _ ?_; clear hK)))) | refine c_block ?_ | (refine i_q ?_; (refine t_block ?_)) | refine c_skip ?_ | (refine i_guard ?_; (refine l_gf rfl rfl rfl rfl rfl rfl ?_)) | (refine i_cond ?_; (refine c_cf rfl (by (rfl)) ?_))))
            obtain ⟨Cs, hf1, hf2⟩ := mem_focus hh hk h2
            obtain ⟨m', hm1, hm2⟩ := hf2 (spl l at_.toNat xs)
            refine l_hp (fun w h => hf1 _ _ _ w h) ?_
            refine l_ex (fun w h => bytesA_open (i := 0) h rfl (by omega)) ?_
            rintro ⟨g, junk⟩ ⟨rfl, hy2, hy3, hy4, hy5, hy6⟩
            have hcut : cutA (some ⟨g, 0, none⟩) q at_.toNat 1 = some ⟨g, at_.toNat, none⟩ := by
              rw [cutA, if_neg (by omega)]
              simp [Addr.add_lit]
            rw [hcut]
            refine l_op rfl (fun K hK => e_copy tab (i := 0) (news := bv xs) rfl rfl rfl rfl rfl rfl ?_ (fun w h => roB_src (h.ro hx)) (bv_one xs) (hK _ _ ?_))
            · dsimp only at hy5 ⊢
              rw [hy5]
              omega
            clear hK
            rw [show (min k (k : Int).toNat) = k by omega, List.take_of_length_le (by simp; omega), setAt_bv (by omega)]
            refine l_hp (hp' := [memA p m']) (fun w h => hm2 _ _ _ w ?_) ?_
            · refine h.see (i := 0) rfl (fun h => ?_) (fun b hb => ?_)
              · have := bytesA_shut (c := q) h (hy6.spl hxo) (by rw [List.length_append, length_bv, length_spl (by omega)]; rw [List.length_append, length_bv] at hy5; exact hy5) hy4
                rw [length_spl (by omega)] at this
                exact this
              · injection hb with hb
                exact hb.symm
            (repeat (first | (refine i_dst ?_; ((refine i_assign ?_; refine l_q rfl rfl rfl (q_assign rfl) ?_))) | refine c_seq (fun K hK => ?_) | refine c_region ?_ | refine l_nil ?_ | refine t_then ?_ | (refine i_k ?_; (((refine hK _ _ ?_; clear hK)))) | refine c_ret ?_))
            exact t_ret1 Try.results11 rfl ⟨m', rfl, by rw [e2, hm1], by rw [e2]⟩
    · have e1 : partV m who area at_ k = .tuple #[.slice none 0 0, .bool false, .int .i64 80] := by rw [partV, if_neg (by omega), h2]
      have e2 : writeM m.abs who area at_ xs = (m.abs, 80) := by rw [writeM, if_neg h1, h3]
      rw [e1]
      (repeat (first | (refine i_dst ?_; (first | (refine i_move ?_; refine l_q rfl rfl rfl (q_move rfl) ?_) | (refine i_assign ?_; refine l_q rfl rfl rfl (q_assign rfl) ?_) | (refine i_bin ?_; refine l_q rfl rfl rfl (by (exact q_neq rfl rfl)) ?_) | refine l_q rfl rfl rfl (by (exact q_extract rfl rfl)) ?_)) | refine c_seq (fun K hK => ?_) | refine c_region ?_ | refine l_nil ?_ | refine t_then ?_ | (refine i_k ?_; (((refine hK _ _ ?_; clear hK)))) | refine c_block ?_ | (refine i_q ?_; (first | refine t_then_ret ?_ | refine t_block_ret ?_)) | refine c_ret ?_ | (refine i_cond ?_; (refine c_ct rfl (by (rfl)) ?_))))
      exact t_ret1 Try.results11 rfl ⟨m, rfl, by rw [e2], by rw [e2]⟩
end
end Go.Proofs.Ytboccjdncdaakaa

/-
  Layer 8: of, and what it calls.
-/

set_option linter.unusedVariables false
set_option maxRecDepth 100000
namespace Go.Proofs.Ytboccjdncdaakaa
open Go.RowKit
attribute [local irreducible] TL TC TQ TK TO Qt TA
/-- Values of a cell each that a slice (or nil) reads. -/
def roV (A : Option Addr) (n : Nat) (vs : List Value) : Asn where
  S := fun x => 0 < n ∧ ∃ o, A = some ⟨x, o, none⟩
  C := fun w => vs.length = n ∧ (0 < n → ∃ b o, A = some ⟨b, o, none⟩ ∧ b < w.heap.size ∧ CellsAt w b o vs)
  lt := fun h b ⟨hn, o, hA⟩ => by
    obtain ⟨b', o', h1, h2, _⟩ := h.2 hn
    rw [hA] at h1
    injection h1 with h1
    injection h1 with h1
    omega
  loc := fun {w w'} hk h => ⟨h.1, fun hn => by
    obtain ⟨b, o, h1, h2, h3⟩ := h.2 hn
    have hb := hk b ⟨hn, o, h1⟩
    refine ⟨b, o, h1, ?_, fun j u hu => ?_⟩
    · have : w.heap[b]? = some (w.heap[b]'h2) := Array.getElem?_eq_getElem h2
      rw [this] at hb
      exact (Array.getElem?_eq_some_iff.1 hb).1
    · rw [World.cell?_of_block (w := w) (a := ⟨b, o + j, none⟩) hb]
      exact h3 j u hu⟩
theorem roV_blk {b : Nat} {l : List Value} {t : TypeId} {n : Nat} {w : World} (h : (blk b l t).C w) (hl : l.length = n) : (roV (some ⟨b, 0, none⟩) n l).C w :=
  ⟨hl, fun hn => ⟨b, 0, rfl, (blk b l t).lt h b rfl, fun j u hu => by rw [Nat.zero_add]; exact blk_cell h hu⟩⟩
theorem roV_nil (w : World) : (roV none 0 []).C w := ⟨rfl, fun h => by omega⟩
theorem roV_cell {A : Option Addr} {n : Nat} {vs : List Value} {w : World} (h : (roV A n vs).C w) (hn : 0 < n) : ∃ b o, A = some ⟨b, o, none⟩ ∧ CellsAt w b o vs := by
  obtain ⟨b, o, h1, _, h2⟩ := h.2 hn
  exact ⟨b, o, h1, h2⟩

section
variable {s : SegV} {w : World}
/-- Is there such a page? -/
def okPage (s : SegV) (p : Int) : Bool := decide (0 ≤ p ∧ p ≤ (s.pgs.length : Int) - 1)

end

/-- What of tells. -/
def ofV (m : MemV) (seg : Int) (ps : List Int) : Value :=
  if 0 ≤ seg then match m.segs[seg.toNat]? with
    | some s => if ps.all (okPage s) then .pointer (some ⟨s.b, 0, none⟩) else .pointer none
    | none => .pointer none
  else .pointer none
section
variable {p : Nat} {m : MemV} {w : World}
end
end Go.Proofs.Ytboccjdncdaakaa

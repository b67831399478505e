/-
  Layer 8: Write, walked.
-/
import Derived.Test.YtidekbijkknlmaaM3
set_option linter.unusedVariables false
set_option maxRecDepth 100000
namespace Go.Proofs.Ytidekbijkknlmaa
open Go.RowKit
attribute [local irreducible] TL TC TQ TK TO Qt TA
/-- Bytes put into others, from a place on. -/
def spl (l : List Int) (o : Nat) (x : List Int) : List Int := l.take o ++ x ++ l.drop (o + x.length)
theorem length_spl {l x : List Int} {o : Nat} (h : o + x.length ≤ l.length) : (spl l o x).length = l.length := by simp [spl]; omega
theorem Oct.spl {l x : List Int} {o : Nat} (h : Oct l) (hx : Oct x) : Oct (spl l o x) := ((h.take o).append hx).append (h.drop _)
theorem setAt_bv {l x : List Int} {o : Nat} {junk : List Value} (h : o + x.length ≤ l.length) : setAt (bv l ++ junk) o (bv x) = bv (spl l o x) ++ junk := by
  rw [setAt_eq _ _ _ (by simp; omega)]
  simp only [spl, bv_append, length_bv]
  rw [List.take_append_of_le_length (by simp; omega), List.drop_append_of_le_length (by simp; omega)]
  simp [bv]
/-- Memory after an area has changed. -/
def setArea (M : Mm) (who area : Nat) (l : List Int) : Mm :=
  if area = 0 then { M with ram := l }
  else match M.segs[area - 1]? with
    | none => M
    | some s => { M with segs := M.segs.set (area - 1) { s with dat := s.dat.set (if who = 1 then s.s0 else s.s1) l } }
/-- What Write leaves and tells. -/
def writeM (M : Mm) (who area : Nat) (at_ : Int) (x : List Int) : Mm × Int :=
  if who ≠ 1 ∧ who ≠ 2 then (M, 1)
  else match areaM M who area with
    | none => (M, 80)
    | some (l, f) =>
      if (x.length : Int) > l.length ∨ at_ > l.length - x.length then (M, 80)
      else if x.length = 0 then (M, 0)
      else if f then (M, 81)
      else (setArea M who area (spl l at_.toNat x), 0)
theorem setArea_ok {M : Mm} {who area : Nat} {l l' : List Int} {f : Bool} (hk : MmOk M) (ha : areaM M who area = some (l, f)) (hl : l'.length = l.length) : MmOk (setArea M who area l') := by
  unfold setArea
  unfold areaM at ha
  by_cases h0 : area = 0
  · rw [if_pos h0]
    rw [if_pos h0] at ha
    injection ha with ha
    injection ha with ha _
    exact ⟨by show l'.length ≤ 1024; rw [hl, ← ha]; exact hk.ram, hk.n4, hk.segs⟩
  · rw [if_neg h0]
    rw [if_neg h0] at ha
    cases hs : M.segs[area - 1]? with
    | none => rw [hs] at ha; cases ha
    | some s =>
      rw [hs] at ha
      dsimp only at ha ⊢
      have hso := hk.segs s (List.mem_of_getElem? hs)
      generalize (if who = 1 then s.s0 else s.s1) = k at *
      refine ⟨hk.ram, by simpa using hk.n4, fun t ht => ?_⟩
      rcases List.mem_or_eq_of_mem_set ht with h | h
      · exact hk.segs t h
      · subst h
        refine ⟨by simpa using hso.h0, by simpa using hso.h1, by simpa using hso.n4, hso.l1, hso.l2, fun x hx => ?_⟩
        rcases List.mem_or_eq_of_mem_set hx with h | h
        · exact hso.len x h
        · subst h
          cases hd : s.dat[k]? with
          | none => rw [hd] at ha; cases ha
          | some y =>
            rw [hd] at ha
            injection ha with ha
            injection ha with ha _
            show x.length = s.ln
            rw [hl, ← ha]
            exact hso.len y (List.mem_of_getElem? hd)
theorem writeM_ok {M : Mm} {who area : Nat} {at_ : Int} {x : List Int} (hk : MmOk M) (h0 : 0 ≤ at_) : MmOk (writeM M who area at_ x).1 := by
  unfold writeM
  split
  · exact hk
  · split
    · exact hk
    · rename_i l f ha
      split
      · exact hk
      · split
        · exact hk
        · split
          · exact hk
          · exact setArea_ok hk ha (length_spl (by omega))

section
variable {p : Nat} {m : MemV} {w : World}
/-- Of an object of bytes: laid open, and shut. -/
theorem bytesA_open {S : Nat → Prop} {w0 w : World} {hp : List Asn} (h : St S w0 hp w) {i : Nat} {A : Option Addr} {k c : Nat} {l : List Int} (hi : hp[i]? = some (bytesA (.slice A k c) l)) (hk : 0 < l.length) : ∃ x : Nat × List Value, (A = some ⟨x.1, 0, none⟩ ∧ k = l.length ∧ l.length ≤ c ∧ c ≤ maxLen ∧ (bv l ++ x.2).length = c ∧ Oct l) ∧ St S w0 (hp.set i (blk x.1 (bv l ++ x.2) 5)) w := by
  have h1 := h.get hi
  obtain ⟨g, cap, junk, h2, h3, h4, h5, h6⟩ := row_blk h1.2 hk
  injection h2 with h2 h7 h8
  subst h8
  refine ⟨(g, junk), ⟨h2, h7, h3, h4, by simpa using h5, h1.1⟩, h.see hi (fun _ => h6) (fun b hb => ?_)⟩
  show (Value.slice A k c).ownBlock = some b
  have : b = g := hb
  rw [h2, this]
  rfl
theorem bytesA_shut {g c : Nat} {l : List Int} {junk : List Value} {w : World} (h : (blk g (bv l ++ junk) 5).C w) (ho : Oct l) (hl : (bv l ++ junk).length = c) (hc : c ≤ maxLen) : (bytesA (.slice (some ⟨g, 0, none⟩) l.length c) l).C w :=
  ⟨ho, row_of_blk h 1 l.length c (by rw [← hl]; simp) hc (by simpa using hl) _ (by simp)⟩

def SegV.put (s : SegV) (k : Nat) (l : List Int) : SegV := ⟨s.b, s.pv, s.pgs, ⟨s.s.ln, s.s.dat.set k l, s.s.s0, s.s.s1⟩⟩
theorem segL_set {s : SegV} {k : Nat} {v : Value} {l' : List Int} (hv : s.pgs[k]? = some v) (hk : k < s.s.dat.length) : (segL s).set (3 + k) (bytesA v l') = segL (s.put k l') := by
  unfold segL
  rw [List.set_append, if_neg (by simp)]
  have h1 : 3 + k - [blk s.b [s.pv, .int .i64 s.s.s0, .int .i64 s.s.s1] 154, row 30 1 s.pv s.pgs.length s.pgs, pureA (s.pgs.length = s.s.dat.length)].length = k := by simp
  rw [h1]
  have h2 : (List.zipWith bytesA s.pgs s.s.dat).set k (bytesA v l') = List.zipWith bytesA s.pgs (s.s.dat.set k l') := by
    apply List.ext_getElem?
    intro j
    rw [List.getElem?_set]
    by_cases hj : k = j
    · subst hj
      have hl : k < (List.zipWith bytesA s.pgs s.s.dat).length := by
        have := (List.getElem?_eq_some_iff.1 hv).1
        simp
        omega
      rw [if_pos rfl, if_pos hl, List.getElem?_zipWith, hv, List.getElem?_set_self hk]
    · rw [if_neg hj, List.getElem?_zipWith, List.getElem?_zipWith, List.getElem?_set_ne hj]
  rw [h2]
  simp [SegV.put]
theorem memL_set {p : Nat} {m : MemV} {a : Nat} {s s' : SegV} (hs : m.segs[a]? = some s) (hb : s'.b = s.b) : (memL p m).set (3 + a) (segA s') = memL p { m with segs := m.segs.set a s' } := by
  unfold memL
  rw [List.set_append, if_neg (by simp)]
  have h1 : 3 + a - [blk p [m.rv, m.sv] 149, bytesA m.rv m.ram, row 152 1 m.sv m.segs.length (m.segs.map fun s => .pointer (some ⟨s.b, 0, none⟩))].length = a := by simp
  rw [h1]
  have h2 : (m.segs.set a s').map (fun s => Value.pointer (some ⟨s.b, 0, none⟩)) = m.segs.map (fun s => Value.pointer (some ⟨s.b, 0, none⟩)) := by
    rw [List.map_set, hb]
    apply List.ext_getElem?
    intro j
    rw [List.getElem?_set]
    by_cases hj : a = j
    · subst hj
      have := (List.getElem?_eq_some_iff.1 hs).1
      rw [if_pos rfl, if_pos (by simpa using this), List.getElem?_map, hs]
      rfl
    · rw [if_neg hj]
  have h3 : (m.segs.map segA).set a (segA s') = (m.segs.set a s').map segA := by rw [List.map_set]
  rw [h3]
  simp only [h2, List.length_set]
theorem mem_focus {p : Nat} {m : MemV} {w : World} (h : (memA p m).C w) (hk : MmOk m.abs) {who area : Nat} {v : Value} {l : List Int} {f : Bool} (ha : areaV m who area = some (v, l, f)) :
    ∃ Cs : List Asn, (∀ S w0 F w, St S w0 (memA p m :: F) w → St S w0 (bytesA v l :: (Cs ++ F)) w) ∧ ∀ l', ∃ m', m'.abs = setArea m.abs who area l' ∧ ∀ S w0 F w, St S w0 (bytesA v l' :: (Cs ++ F)) w → St S w0 (memA p m' :: F) w := by
  unfold areaV at ha
  by_cases h0 : area = 0
  · rw [if_pos h0] at ha
    simp only [Option.some.injEq, Prod.mk.injEq] at ha
    obtain ⟨rfl, rfl, rfl⟩ := ha
    refine ⟨[starL ((memL p m).set 1 emp)], fun S w0 F w hS => st_take (j := 0) (i := 1) hS rfl rfl, fun l' => ⟨{ m with ram := l' }, ?_, fun S w0 F w hS => ?_⟩⟩
    · rw [setArea, if_pos h0]
      rfl
    · exact st_put (j := 0) (i := 1) hS rfl rfl
  · rw [if_neg h0] at ha
    cases hs : m.segs[area - 1]? with
    | none => rw [hs] at ha; cases ha
    | some s =>
      rw [hs] at ha
      dsimp only at ha
      obtain ⟨k, hkk⟩ : ∃ k : Nat, k = (if who = 1 then s.s.s0 else s.s.s1) := ⟨_, rfl⟩
      rw [← hkk] at ha
      cases hv : s.pgs[k]? with
      | none => rw [hv] at ha; cases ha
      | some v' =>
        cases hl : s.s.dat[k]? with
        | none => rw [hv, hl] at ha; cases ha
        | some y =>
          rw [hv, hl] at ha
          simp only [Option.some.injEq, Prod.mk.injEq] at ha
          obtain ⟨rfl, rfl, rfl⟩ := ha
          have hkd : k < s.s.dat.length := (List.getElem?_eq_some_iff.1 hl).1
          refine ⟨[starL ((segL s).set (3 + k) emp), starL ((memL p m).set (3 + (area - 1)) emp)], fun S w0 F w hS => ?_, fun l' => ⟨{ m with segs := m.segs.set (area - 1) (s.put k l') }, ?_, fun S w0 F w hS => ?_⟩⟩
          · exact st_take (j := 0) (i := 3 + k) (st_take (j := 0) (i := 3 + (area - 1)) hS rfl (memL_seg hs)) rfl (segL_page hv hl)
          · rw [setArea, if_neg h0, abs_seg hs]
            simp only [MemV.abs, List.map_set, hkk, SegV.put]
          · have h1 := st_put (j := 0) (i := 3 + k) hS rfl (by
              rw [List.getElem?_set_self]
              exact (List.getElem?_eq_some_iff.1 (segL_page hv hl)).1)
            rw [List.set_set, segL_set hv hkd] at h1
            have h2 := st_put (j := 0) (i := 3 + (area - 1)) (l := (memL p m).set (3 + (area - 1)) emp) (Y := segA (s.put k l')) (hp := starL ((memL p m).set (3 + (area - 1)) emp) :: F) h1 rfl (by
              rw [List.getElem?_set_self]
              exact (List.getElem?_eq_some_iff.1 (memL_seg hs)).1)
            rw [List.set_set, memL_set (s' := s.put k l') hs rfl] at h2
            exact h2
abbrev writeArgs (p : Nat) (who area : Nat) (at_ : Int) (X : Option Addr) (k c : Nat) : List Value := [.pointer (some ⟨p, 0, none⟩), .int .u8 who, .int .u8 area, .int .u32 at_, .slice X k c]
def WriteR (p : Nat) (M : Mm × Int) (v : Value) (B : List Asn) : Prop := ∃ m', B = [memA p m'] ∧ m'.abs = M.1 ∧ v = .int .i64 M.2

set_option maxHeartbeats 4000000 in
theorem write_spec (hA : Hold [memA p m] w) (hk : MmOk m.abs) (who area : Nat) (at_ : Int) (X : Option Addr) (k c : Nat) (xs : List Int) (hx : Ro (fps [memA p m]) w (roB X k xs)) (hkm : k ≤ 1000000) (hw : who ≤ 255) (ha : area ≤ 255) (ha0 : 0 ≤ at_) (ha1 : at_ ≤ 4294967295) :
    Calls Try.prog 35 (writeArgs p who area at_ X k c).toArray w (Ret w [memA p m] (WriteR p (writeM m.abs who area at_ xs))) := by
  refine enter Try.func35 rfl Try.ntmps35 rfl hA ?_
  have hxl := roB_len hx.is
  have hxo := roB_oct hx.is
  (repeat (first | (refine i_dst ?_; (first | (refine i_move ?_; refine l_q rfl rfl rfl (q_move rfl) ?_) | (refine i_assign ?_; refine l_q rfl rfl rfl (q_assign rfl) ?_) | (refine i_blt ?_; refine l_q rfl rfl rfl (by (exact q_len tab rfl rfl)) ?_))) | refine c_seq (fun K hK => ?_) | refine c_region ?_ | refine l_nil ?_ | refine t_then ?_ | (refine i_k ?_; (((refine hK _ _ ?_; clear hK))))))
  (refine l_op rfl (fun K hK => e_call0 rfl rfl Try.func58 rfl (by decide) (fun w' h => part_spec (roHp0 h (i := 0) rfl) hk who area at_ k hw ha (by omega) ha0 ha1) (fun v B hv => hK _ _ ?_)); clear hK; obtain ⟨rfl, rfl⟩ := hv)
  have hh : (memA p m).C w := hA.all _ (by simp)
  by_cases h1 : who ≠ 1 ∧ who ≠ 2
  · have e1 : partV m who area at_ k = .tuple #[.slice none 0 0, .bool false, .int .i64 1] := by rw [partV, if_pos (.inl h1)]
    have e2 : writeM m.abs who area at_ xs = (m.abs, 1) := by rw [writeM, if_pos h1]
    rw [e1]
    (repeat (first | (refine i_dst ?_; (first | (refine i_move ?_; refine l_q rfl rfl rfl (q_move rfl) ?_) | (refine i_assign ?_; refine l_q rfl rfl rfl (q_assign rfl) ?_) | (refine i_bin ?_; refine l_q rfl rfl rfl (by (exact q_neq rfl rfl)) ?_) | refine l_q rfl rfl rfl (by (exact q_extract rfl rfl)) ?_)) | refine c_seq (fun K hK => ?_) | refine c_region ?_ | refine l_nil ?_ | refine t_then ?_ | (refine i_k ?_; (((refine hK _ _ ?_; clear hK)))) | refine c_block ?_ | (refine i_q ?_; (first | refine t_then_ret ?_ | refine t_block_ret ?_)) | refine c_ret ?_ | (refine i_cond ?_; (refine c_ct rfl (by (rfl)) ?_))))
    exact t_ret1 Try.results35 rfl ⟨m, rfl, by rw [e2], by rw [e2]⟩
  · rcases areaV_abs (who := who) (area := area) hh hk with ⟨v, l, f, h2, h3, h4, h8, h9⟩ | ⟨h2, h3⟩
    · by_cases hb : (k : Int) > l.length ∨ at_ > l.length - (k : Int)
      · have e1 := areaV_none (by omega) (by omega) h2 hb
        have e2 : writeM m.abs who area at_ xs = (m.abs, 80) := by rw [writeM, if_neg h1, h3]; exact if_pos (by rw [hxl]; exact hb)
        rw [e1]
        (repeat (first | (refine i_dst ?_; (first | (refine i_move ?_; refine l_q rfl rfl rfl (q_move rfl) ?_) | (refine i_assign ?_; refine l_q rfl rfl rfl (q_assign rfl) ?_) | (refine i_bin ?_; refine l_q rfl rfl rfl (by (exact q_neq rfl rfl)) ?_) | refine l_q rfl rfl rfl (by (exact q_extract rfl rfl)) ?_)) | refine c_seq (fun K hK => ?_) | refine c_region ?_ | refine l_nil ?_ | refine t_then ?_ | (refine i_k ?_; (((refine hK _ _ ?_; clear hK)))) | refine c_block ?_ | (refine i_q ?_; (first | refine t_then_ret ?_ | refine t_block_ret ?_)) | refine c_ret ?_ | (refine i_cond ?_; (refine c_ct rfl (by (rfl)) ?_))))
        exact t_ret1 Try.results35 rfl ⟨m, rfl, by rw [e2], by rw [e2]⟩
      · obtain ⟨A, q, rfl, hc, hcm, h6, h7⟩ := bytesA_ro h4
        have e1 := areaV_some (by omega) (by omega) h2 hb
        rw [e1]
        by_cases hk0 : k = 0
        · have e2 : writeM m.abs who area at_ xs = (m.abs, 0) := by
            rw [writeM, if_neg h1, h3]
            dsimp only
            rw [if_neg (by rw [hxl]; exact hb), if_pos (by omega)]
          cases f
          · (repeat (first | (refine i_dst ?_; (first | (refine i_move ?_; refine l_q rfl rfl rfl (q_move rfl) ?_) | (refine i_assign ?_; refine l_q rfl rfl rfl (q_assign rfl) ?_) | (refine i_bin ?_; refine l_q rfl rfl rfl (by (exact q_neq rfl rfl)) ?_) | refine l_q rfl rfl rfl (by (first | exact q_extract rfl rfl | exact q_pick_f rfl rfl)) ?_)) | refine c_seq (fun K hK => ?_) | refine c_region ?_ | refine l_nil ?_ | refine t_then ?_ | (refine i_k ?_; (((refine hK _ _ ?_; clear hK)))) | refine c_block ?_ | (refine i_q ?_; (refine t_block ?_)) | refine c_skip ?_ | (refine i_guard ?_; (refine l_gf rfl rfl rfl rfl rfl rfl ?_)) | (refine i_cond ?_; (refine c_cf rfl (by (rfl)) ?_))))
            refine l_op rfl (fun K hK => e_copy0 tab rfl rfl rfl rfl rfl (by omega) (hK _ _ ?_))
            clear hK
            (repeat (first | (refine i_dst ?_; ((refine i_assign ?_; refine l_q rfl rfl rfl (q_assign rfl) ?_))) | refine c_seq (fun K hK => ?_) | refine c_region ?_ | refine l_nil ?_ | refine t_then ?_ | (refine i_k ?_; (((refine hK _ _ ?_; clear hK)))) | refine c_ret ?_))
            exact t_ret1 Try.results35 rfl ⟨m, rfl, by rw [e2], by rw [e2]⟩
          · (repeat (first | (refine i_dst ?_; (first | (refine i_move ?_; refine l_q rfl rfl rfl (q_move rfl) ?_) | (refine i_assign ?_; refine l_q rfl rfl rfl (q_assign rfl) ?_) | (refine i_bin ?_; refine l_q rfl rfl rfl (by (first | exact q_neq rfl rfl | exact q_gtr rfl rfl)) ?_) | (refine i_blt ?_; refine l_q rfl rfl rfl (by (exact q_len tab rfl rfl)) ?_) | refine l_q rfl rfl rfl (by (first | exact q_extract rfl rfl | exact q_pick_t rfl rfl)) ?_)) | refine c_seq (fun K hK => ?_) | refine c_region ?_ | refine l_nil ?_ | refine t_then ?_ | (refine i_k ?_; (((refine hK _ _ ?_; clear hK)))) | refine c_block ?_ | (refine i_q ?_; (refine t_block ?_)) | refine c_skip ?_ | (refine i_guard ?_; (refine l_gt rfl rfl rfl ?_)) | (refine i_cond ?_; (refine c_cf rfl (by (first | rfl | exact decide_eq_false (by omega))) ?_))))
            refine l_op rfl (fun K hK => e_copy0 tab rfl rfl rfl rfl rfl (by omega) (hK _ _ ?_))
            clear hK
            (repeat (first | (refine i_dst ?_; ((refine i_assign ?_; refine l_q rfl rfl rfl (q_assign rfl) ?_))) | refine c_seq (fun K hK => ?_) | refine c_region ?_ | refine l_nil ?_ | refine t_then ?_ | (refine i_k ?_; (((refine hK _ _ ?_; clear hK)))) | refine c_ret ?_))
            exact t_ret1 Try.results35 rfl ⟨m, rfl, by rw [e2], by rw [e2]⟩
        · cases f with
          | true =>
            have e2 : writeM m.abs who area at_ xs = (m.abs, 81) := by
              rw [writeM, if_neg h1, h3]
              dsimp only
              rw [if_neg (by rw [hxl]; exact hb), if_neg (by omega), if_pos rfl]
            (repeat (first | (refine i_dst ?_; (first | (refine i_move ?_; refine l_q rfl rfl rfl (q_move rfl) ?_) | (refine i_assign ?_; refine l_q rfl rfl rfl (q_assign rfl) ?_) | (refine i_bin ?_; refine l_q rfl rfl rfl (by (first | exact q_neq rfl rfl | exact q_gtr rfl rfl)) ?_) | (refine i_blt ?_; refine l_q rfl rfl rfl (by (exact q_len tab rfl rfl)) ?_) | refine l_q rfl rfl rfl (by (first | exact q_extract rfl rfl | exact q_pick_t rfl rfl)) ?_)) | refine c_seq (fun K hK => ?_) | refine c_region ?_ | refine l_nil ?_ | refine t_then ?_ | (refine i_k ?_; (((refine hK _ _ ?_; clear hK)))) | refine c_block ?_ | (refine i_q ?_; (first | refine t_then_ret ?_ | refine t_block_ret ?_)) | refine c_ret ?_ | (refine i_guard ?_; (refine l_gt rfl rfl rfl ?_)) | (refine i_cond ?_; (first | refine c_ct rfl (by (exact decide_eq_true (by omega))) ?_ | refine c_cf rfl (by (rfl)) ?_))))
            exact t_ret1 Try.results35 rfl ⟨m, rfl, by rw [e2], by rw [e2]⟩
          | false =>
            have e2 : writeM m.abs who area at_ xs = (setArea m.abs who area (spl l at_.toNat xs), 0) := by
              rw [writeM, if_neg h1, h3]
              dsimp only
              rw [if_neg (by rw [hxl]; exact hb), if_neg (by omega), if_neg (by simp)]
            (repeat (first | (refine i_dst ?_; (first | (refine i_move ?_; refine l_q rfl rfl rfl (q_move rfl) ?_) | (refine i_assign ?_; refine l_q rfl rfl rfl (q_assign rfl) ?_) | (refine i_bin ?_; refine l_q rfl rfl rfl (by (exact q_neq rfl rfl)) ?_) | refine l_q rfl rfl rfl (by (first | exact q_extract rfl rfl | exact q_pick_f rfl rfl)) ?_)) | refine c_seq (fun K hK => ?_) | refine c_region ?_ | refine l_nil ?_ | refine t_then ?_ | (refine i_k ?_; (((refine hK _ _ ?_; clear hK)))) | refine c_block ?_ | (refine i_q ?_; (refine t_block ?_)) | refine c_skip ?_ | (refine i_guard ?_; (refine l_gf rfl rfl rfl rfl rfl rfl ?_)) | (refine i_cond ?_; (refine c_cf rfl (by (rfl)) ?_))))
            obtain ⟨Cs, hf1, hf2⟩ := mem_focus hh hk h2
            obtain ⟨m', hm1, hm2⟩ := hf2 (spl l at_.toNat xs)
            refine l_hp (fun w h => hf1 _ _ _ w h) ?_
            refine l_ex (fun w h => bytesA_open (i := 0) h rfl (by omega)) ?_
            rintro ⟨g, junk⟩ ⟨rfl, hy2, hy3, hy4, hy5, hy6⟩
            have hcut : cutA (some ⟨g, 0, none⟩) q at_.toNat 1 = some ⟨g, at_.toNat, none⟩ := by
              rw [cutA, if_neg (by omega)]
              simp [Addr.add_lit]
            rw [hcut]
            refine l_op rfl (fun K hK => e_copy tab (i := 0) (news := bv xs) rfl rfl rfl rfl rfl rfl ?_ (fun w h => roB_src (h.ro hx)) (bv_one xs) (hK _ _ ?_))
            · dsimp only at hy5 ⊢
              rw [hy5]
              omega
            clear hK
            rw [show (min k (k : Int).toNat) = k by omega, List.take_of_length_le (by simp; omega), setAt_bv (by omega)]
            refine l_hp (hp' := [memA p m']) (fun w h => hm2 _ _ _ w ?_) ?_
            · refine h.see (i := 0) rfl (fun h => ?_) (fun b hb => ?_)
              · have := bytesA_shut (c := q) h (hy6.spl hxo) (by rw [List.length_append, length_bv, length_spl (by omega)]; rw [List.length_append, length_bv] at hy5; exact hy5) hy4
                rw [length_spl (by omega)] at this
                exact this
              · injection hb with hb
                exact hb.symm
            (repeat (first | (refine i_dst ?_; ((refine i_assign ?_; refine l_q rfl rfl rfl (q_assign rfl) ?_))) | refine c_seq (fun K hK => ?_) | refine c_region ?_ | refine l_nil ?_ | refine t_then ?_ | (refine i_k ?_; (((refine hK _ _ ?_; clear hK)))) | refine c_ret ?_))
            exact t_ret1 Try.results35 rfl ⟨m', rfl, by rw [e2, hm1], by rw [e2]⟩
    · have e1 : partV m who area at_ k = .tuple #[.slice none 0 0, .bool false, .int .i64 80] := by rw [partV, if_neg (by omega), h2]
      have e2 : writeM m.abs who area at_ xs = (m.abs, 80) := by rw [writeM, if_neg h1, h3]
      rw [e1]
      (repeat (first | (refine i_dst ?_; (first | (refine i_move ?_; refine l_q rfl rfl rfl (q_move rfl) ?_) | (refine i_assign ?_; refine l_q rfl rfl rfl (q_assign rfl) ?_) | (refine i_bin ?_; refine l_q rfl rfl rfl (by (exact q_neq rfl rfl)) ?_) | refine l_q rfl rfl rfl (by (exact q_extract rfl rfl)) ?_)) | refine c_seq (fun K hK => ?_) | refine c_region ?_ | refine l_nil ?_ | refine t_then ?_ | (refine i_k ?_; (((refine hK _ _ ?_; clear hK)))) | refine c_block ?_ | (refine i_q ?_; (first | refine t_then_ret ?_ | refine t_block_ret ?_)) | refine c_ret ?_ | (refine i_cond ?_; (refine c_ct rfl (by (rfl)) ?_))))
      exact t_ret1 Try.results35 rfl ⟨m, rfl, by rw [e2], by rw [e2]⟩
end
end Go.Proofs.Ytidekbijkknlmaa

/-
  Layer 8: MemLast, walked.
-/
import Derived.Test.YtecnodkjjpjglaaL7
import Derived.Test.YtecnodkjjpjglaaL9
set_option linter.unusedVariables false
set_option maxRecDepth 100000
namespace Go.Proofs.Ytecnodkjjpjglaa
open Go.RowKit
attribute [local irreducible] TL TC TQ TK TO Qt TA

attribute [local irreducible] blk row bytesA starL memA segA roB


theorem page_write {M : Mm} {aw aa : Nat} {at_ : Int} {x : List Int} {who : Nat} {seg : Int} : pageM (writeM M aw aa at_ x).1 who seg = pageM M who seg := by
  have key : ∀ M' : Mm, (∀ i : Nat, (M'.segs[i]?).map (fun s => (s.s0, s.s1)) = (M.segs[i]?).map (fun s => (s.s0, s.s1))) → pageM M' who seg = pageM M who seg := fun M' h => by
    unfold pageM
    by_cases h1 : who ≠ 1 ∧ who ≠ 2
    · rw [if_pos h1, if_pos h1]
    · rw [if_neg h1, if_neg h1]
      by_cases h2 : 0 ≤ seg
      · rw [if_pos h2, if_pos h2]
        have := h seg.toNat
        cases e1 : M'.segs[seg.toNat]? <;> cases e2 : M.segs[seg.toNat]? <;> rw [e1, e2] at this
        · cases this
        · cases this
        · simp at this
          dsimp only
          rw [this.1, this.2]
      · rw [if_neg h2, if_neg h2]
  refine key _ fun i => ?_
  unfold writeM
  split
  · rfl
  · split
    · rfl
    · split
      · rfl
      · split
        · rfl
        · split
          · rfl
          · unfold setArea
            split
            · rfl
            · split
              · rfl
              · rename_i s hs
                by_cases e : aa - 1 = i
                · subst e
                  dsimp only
                  rw [get_set hs, hs]
                  rfl
                · dsimp only
                  rw [List.getElem?_set_ne e]
theorem good_lenS {x : MapI} {k : Nat} {s : Int × Int} (hs : (goodM x).segs[k]? = some s) : lenM (newM (goodM x)) (k + 1) = s.1.toNat := by
  have hi := (List.getElem?_eq_some_iff.1 hs).1
  rw [lenM, if_neg (by omega), Nat.add_sub_cancel, show (newM (goodM x)).segs[k]? = _ from newSegs_get hi hs]
  rfl
theorem good_lenR (x : MapI) : lenM (newM (goodM x)) 0 = (goodM x).ram.toNat := by simp [lenM, newM]
theorem good_manyS (x : MapI) : (newM (goodM x)).segs.length = (goodM x).segs.length := by simp [newM, newSegs]
/-- What was written is read by whoever sees the same, and nothing else is changed. -/
theorem last_law {M : Mm} (hk : MmOk M) {aw aa at_ : Nat} {x : List Int} {who k n : Nat} (hw : who = 1 ∨ who = 2) (ha : k ≤ M.segs.length) (hn : lenM M k = n) :
    ∃ l q, readM M who k 0 n = (l, 0) ∧ readM (writeM M aw aa at_ x).1 who k 0 n = (q, 0) ∧ l.length = n ∧ q.length = n ∧
      ((writeM M aw aa at_ x).2 = 0 ∧ k = aa ∧ (k = 0 ∨ (pageM M who ((k : Int) - 1)).1 = (pageM M aw ((k : Int) - 1)).1) → at_ + x.length ≤ n ∧ q = spl l at_ x) ∧
      (¬ ((writeM M aw aa at_ x).2 = 0 ∧ k = aa ∧ (k = 0 ∨ (pageM M who ((k : Int) - 1)).1 = (pageM M aw ((k : Int) - 1)).1)) → q = l) := by
  obtain ⟨l, f, e1, e2⟩ := area_is hk ha who
  rw [hn] at e2
  have r1 := read_all hw e1 e2
  by_cases hf : (writeM M aw aa at_ x).2 = 0
  · have haw : aw = 1 ∨ aw = 2 := by
      rcases Decidable.em (aw = 1 ∨ aw = 2) with h | h
      · exact h
      · unfold writeM at hf
        rw [if_pos (by omega)] at hf
        cases hf
    obtain ⟨f', hb, e3⟩ := area_write hk (Int.natCast_nonneg at_) hf haw hw e1
    rw [Int.toNat_natCast] at e3
    by_cases hc : k = aa ∧ (k = 0 ∨ (pageM M who ((k : Int) - 1)).1 = (pageM M aw ((k : Int) - 1)).1)
    · rw [if_pos hc] at e3
      have hb' : at_ + x.length ≤ n := by rw [← hc.1, hn] at hb; omega
      have hl : (spl l at_ x).length = n := by rw [length_spl (by omega), e2]
      exact ⟨l, _, r1, read_all hw e3 hl, e2, hl, fun _ => ⟨hb', rfl⟩, fun h => absurd ⟨hf, hc⟩ h⟩
    · rw [if_neg hc] at e3
      exact ⟨l, _, r1, read_all hw e3 e2, e2, e2, fun h => absurd h.2 hc, fun _ => rfl⟩
  · rw [write_no hf]
    exact ⟨l, l, r1, r1, e2, e2, fun h => absurd h.1 hf, fun _ => rfl⟩

set_option maxHeartbeats 16000000 in
theorem memLast_walk (v : Value) (x : MapI) (W : World) (hx : InMap (fps []) W v x) (A : Option Addr) (n c : Nat) (acts : List ActI) (ha : InS (fps []) W 7 (InAct (fps []) W) A n acts) (hnc : n ≤ c) (hcm : c ≤ maxLen) (u : List Value) (z : ActI) (hz : InAct (fps []) W u z) :
    Calls Try.prog 9 #[v, .slice A n c, .agg u.toArray] W (Ret W [] fun v _ => v = .bool true) := by
  obtain ⟨A0, c0, A0', n0', c0', hv, hq0⟩ := hx.is
  clear hq0
  subst hv
  obtain ⟨Az, kz, cz, rfl, hzr, hkz, hcz⟩ := hz.is
  obtain ⟨_, z1, z2, z3, z4, z5, z6⟩ := hz
  refine enter (vs := [.agg #[.int .i64 x.ram, .slice A0 x.segs.length c0, .slice A0' n0' c0'], .slice A n c, .agg #[.int .u8 z.kind, .int .u8 z.who, .int .u8 z.area, .int .u32 z.at_, .int .i64 z.n, .int .i64 z.m, .slice Az kz cz]]) Try.func9 rfl Try.ntmps9 rfl (Hold.nil W) ?_
  have hmx : maxLen = 2 ^ 63 - 1 := rfl
  (repeat (first | (refine i_dst ?_; (first | (refine i_assign ?_; refine l_q rfl rfl rfl (q_assign rfl) ?_) | (refine i_box ?_; (refine l_boxA rfl rfl (fun _ => ?_))))) | refine d_seq ?_ | refine c_region ?_ | refine l_nil ?_ | (refine i_q ?_; (refine d_then ?_))))
  (refine l_call0 rfl rfl Try.func13 rfl (by decide) (fun w' h => shown_spec w') (fun v B hv => ?_); obtain ⟨rfl, rfl⟩ := hv)
  (repeat (first | (refine i_dst ?_; (first | (refine i_assign ?_; refine l_q rfl rfl rfl (q_assign rfl) ?_) | (refine i_load ?_; refine l_q rfl rfl rfl (by ((exact q_ldN tab rfl rfl rfl rfl (by first | ((repeat (first | exact List.Mem.head _ | apply List.Mem.tail)); done) | fail) (by first | ((repeat (first | exact TakeR.nil | apply TakeR.cons | apply CutR.zero | apply CutR.skip)); done) | fail)))) ?_))) | refine d_seq ?_ | refine c_region ?_ | refine l_nil ?_ | (refine i_q ?_; (refine d_then ?_))))
  (refine l_call0 rfl rfl Try.func24 rfl (by decide) (fun w' h => good_spec _ x w' (hx.to0 h)) (fun v B hv => ?_); obtain ⟨A1, c1, rfl, hc1, hc2, rfl⟩ := hv)
  (repeat (first | (refine i_dst ?_; (first | (refine i_load ?_; refine l_q rfl rfl rfl (by ((exact q_ldN tab rfl rfl rfl rfl (by first | ((repeat (first | exact List.Mem.head _ | apply List.Mem.tail)); done) | fail) (by first | ((repeat (first | exact TakeR.nil | apply TakeR.cons | apply CutR.zero | apply CutR.skip)); done) | fail)))) ?_) | (refine i_alloc ?_; (refine l_allocA tab rfl rfl (fun _ => ?_))))) | refine d_seq ?_ | refine c_region ?_ | refine l_nil ?_ | (refine i_q ?_; (refine d_then ?_)) | (refine i_store ?_; ((refine l_setN tab rfl rfl rfl rfl (List.cons_ne_nil _ _) rfl (by first | ((repeat (first | exact Upd.head | apply Upd.tail)); done) | fail) (by first | ((repeat (first | exact LSets.nil | exact LSet.zero | apply LSets.cons | apply LSet.succ)); done) | fail) ?_)))))
  rename_i b3 b5 b8
  have hsl : (goodM x).segs.length ≤ 4 := (good_ok x).2.2.1
  have hrm : 8 ≤ (goodM x).ram ∧ (goodM x).ram ≤ 64 := by simp only [goodM]; omega
  (refine l_call0 rfl rfl Try.func14 rfl (by decide) (fun w' h => new_spec _ (goodM x) w' (InMap.good (h.mem (by first | ((repeat (first | exact List.Mem.head _ | apply List.Mem.tail)); done) | fail)) hc1 hc2)) (fun v B hv => ?_); obtain ⟨_, p, m, rfl, rfl, hm⟩ | ⟨hno, _⟩ := hv)
  rotate_left
  · exact absurd (good_ok x) hno
  have hM : MmOk m.abs := by rw [hm]; exact newM_ok (good_ok x)
  have hS : Same0 (newM (goodM x)) m.abs := by rw [hm]; exact Same0.refl _
  (repeat (first | (refine i_dst ?_; (first | (refine i_move ?_; refine l_q rfl rfl rfl (q_move rfl) ?_) | (refine i_assign ?_; refine l_q rfl rfl rfl (q_assign rfl) ?_) | (refine i_bin ?_; refine l_q rfl rfl rfl (by (first | exact q_neq rfl rfl | exact q_eqnil tab rfl rfl rfl)) ?_) | refine l_q rfl rfl rfl (by (first | exact q_extract rfl rfl | exact q_pick_f rfl rfl)) ?_)) | refine d_seq ?_ | refine c_region ?_ | refine l_nil ?_ | (refine i_q ?_; (refine d_then ?_)) | refine c_skip ?_ | (refine i_guard ?_; (refine l_gt rfl rfl rfl ?_)) | (refine i_cond ?_; (refine c_cf rfl (by (rfl)) ?_))))
  (refine l_call0 rfl rfl Try.func16 rfl (by decide) (fun w' h => few_spec A n c w' hnc hcm) (fun v B hv => ?_); obtain ⟨rfl, rfl⟩ := hv)
  (repeat (first | (refine i_dst ?_; (first | (refine i_move ?_; refine l_q rfl rfl rfl (q_move rfl) ?_) | (refine i_blt ?_; refine l_q rfl rfl rfl (by (exact q_len tab rfl rfl)) ?_))) | refine l_nil ?_ | refine c_block ?_ | (refine i_q ?_; (refine d_then ?_))))
  refine d_loop (T := Nat × MemV) [5, 7, 8, 9, 44, 45] (fun t => [(46, .int .i64 t.1)]) [blk b8 [.int .i64 (goodM x).ram, .slice A1 (goodM x).segs.length c1, .slice none 0 0] 25, row 53 2 (.slice A1 (goodM x).segs.length c1) (goodM x).segs.length (segCells (goodM x).segs), blk b5 [.int .u8 z.kind, .int .u8 z.who, .int .u8 z.area, .int .u32 z.at_, .int .i64 z.n, .int .i64 z.m, .slice Az kz cz] 39]
    (fun t => [memA p t.2]) (fun t => t.1 ≤ min n 60 ∧ MmOk t.2.abs ∧ Same0 (newM (goodM x)) t.2.abs) (fun t => min n 60 - t.1) (0, m) (by first | ((repeat (first | exact Pick.nil | exact rfl | apply Pick.cons)); done) | fail) ⟨Nat.zero_le _, hM, hS⟩ (by first | ((repeat (first | exact trivial | exact rfl | apply Sub.cons | exact look_int rfl (by omega) | exact look_int rfl (by simp) | exact look_int rfl (by simp; omega))); done) | fail) (fun w h => h.pick [0, 1, 2, 3] rfl) ?_
  clear hm hM hS m
  rintro ⟨k, m⟩ ⟨hk, hkm, hks⟩
  dsimp only at hk hkm hks ⊢
  by_cases hlt : k < min n 60
  · obtain ⟨a, hak⟩ : ∃ a, acts[k]? = some a := ⟨_, List.getElem?_eq_getElem (by rw [ha.len]; omega)⟩
    obtain ⟨bA, oA, r, rfl, hrl, hra, hcell⟩ := ha.get (by omega) hak
    obtain ⟨Aa, ka, ca, rfl, _⟩ := hra.is
    (repeat (first | (refine i_dst ?_; (first | (refine i_move ?_; refine l_q rfl rfl rfl (q_move rfl) ?_) | (refine i_load ?_; refine l_q rfl rfl rfl (by (first | (exact q_ldN tab rfl rfl rfl rfl (by first | ((repeat (first | exact List.Mem.head _ | apply List.Mem.tail)); done) | fail) (by first | ((repeat (first | exact TakeR.nil | apply TakeR.cons | apply CutR.zero | apply CutR.skip)); done) | fail)) | exact q_ldcN tab rfl rfl rfl rfl (by assumption) rfl)) ?_) | (refine i_bin ?_; refine l_q rfl rfl rfl (by (exact q_lss rfl rfl)) ?_) | (refine i_ix ?_; refine l_q rfl rfl rfl (by (exact q_indexAddr tab rfl rfl rfl rfl (by omega))) ?_) | (refine i_alloc ?_; (refine l_allocA tab rfl rfl (fun _ => ?_))))) | refine d_seq ?_ | refine c_region ?_ | refine l_nil ?_ | refine c_block ?_ | (refine i_q ?_; (refine d_then ?_)) | refine c_skip ?_ | (refine i_store ?_; ((refine l_setN tab rfl rfl rfl rfl (List.cons_ne_nil _ _) rfl (by first | ((repeat (first | exact Upd.head | apply Upd.tail)); done) | fail) (by first | ((repeat (first | exact LSets.nil | exact LSet.zero | apply LSets.cons | apply LSet.succ)); done) | fail) ?_))) | (refine i_cond ?_; (refine c_ct rfl (by (exact decide_eq_true (by omega))) ?_))))
    (refine l_call1 (X := memA p m) (by first | ((repeat (first | exact Ext.head | apply Ext.tail)); done) | fail) rfl rfl Try.func17 rfl (by decide) (fun w' h => does_spec h.split hkm _ a (hra.to (fun r hr => h.roOf hr (fun X hX => by simp at hX; simp [hX])))) (fun v B hv => ?_); obtain ⟨m', A', c', rfl, rfl, hm'⟩ := hv)
    (repeat (first | (refine i_dst ?_; (first | (refine i_move ?_; refine l_q rfl rfl rfl (q_move rfl) ?_) | (refine i_bin ?_; refine l_q rfl rfl rfl (by (exact q_add rfl rfl (by (exact wr_i64 (by omega))))) ?_))) | refine c_region ?_ | refine l_nil ?_ | (refine i_q ?_; (first | refine d_then ?_ | refine t_then ?_ | refine t_block ?_))))
    refine k_again (k + 1, m') ⟨by dsimp only; omega, by rw [hm']; exact doesM_ok hkm, by rw [hm']; exact hks.trans same0_does⟩ (by dsimp only; omega) (by first | ((repeat (first | exact trivial | exact rfl | apply Sub.cons | exact look_int rfl (by omega) | exact look_int rfl (by simp) | exact look_int rfl (by simp; omega))); done) | fail) (fun w h => h.pick [0, 3, 4, 5] rfl)
  · (repeat (first | (refine i_dst ?_; (first | (refine i_move ?_; refine l_q rfl rfl rfl (q_move rfl) ?_) | (refine i_bin ?_; refine l_q rfl rfl rfl (by (exact q_lss rfl rfl)) ?_))) | refine d_seq ?_ | refine c_region ?_ | refine l_nil ?_ | (refine i_q ?_; (first | refine d_then ?_ | refine d_then_exit ?_ | refine t_then_exit ?_ | refine t_block_eq rfl ?_)) | refine c_exit ?_ | (refine i_cond ?_; (refine c_cf rfl (by (exact decide_eq_false (by omega))) ?_))))
    (refine l_call0 rfl rfl Try.func37 rfl (by decide) (fun w' h => mclone_spec (m := m) (Ro.empty (h.mem (by first | ((repeat (first | exact List.Mem.head _ | apply List.Mem.tail)); done) | fail))) hkm) (fun v B hv => ?_); obtain ⟨p2, m2, rfl, rfl, hm2⟩ := hv)
    have hkm2 : MmOk m2.abs := by rw [hm2]; exact hkm
    obtain ⟨bs, hbs⟩ : ∃ bs, bs = z.b.take 20 := ⟨_, rfl⟩
    have hrt := hzr.take (k := min kz 20) (by omega)
    have hbl : z.b.length = kz := roB_len hzr.is
    have e20 : z.b.take (min kz 20) = bs := by
      rw [hbs]
      by_cases h : kz ≤ 20
      · rw [Nat.min_eq_left h, List.take_of_length_le (by omega), List.take_of_length_le (by omega)]
      · rw [Nat.min_eq_right (by omega)]
    rw [e20] at hrt
    have hbsl : bs.length = min kz 20 := roB_len hrt.is
    have hbso : Oct bs := roB_oct hrt.is
    (repeat (first | (refine i_dst ?_; (first | (refine i_move ?_; refine l_q rfl rfl rfl (q_move rfl) ?_) | (refine i_assign ?_; refine l_q rfl rfl rfl (q_assign rfl) ?_) | (refine i_load ?_; refine l_q rfl rfl rfl (by ((exact q_ld1 tab rfl rfl rfl (by first | ((repeat (first | exact List.Mem.head _ | apply List.Mem.tail)); done) | fail) (by (rfl))))) ?_) | (refine i_blt ?_; refine l_q rfl rfl rfl (by (first | exact q_len tab rfl rfl | exact q_minN rfl rfl)) ?_) | (refine i_sl ?_; refine l_q rfl rfl rfl (by (exact q_slHi tab rfl rfl rfl rfl (by first | (with_reducible exact Int.toNat_natCast _) | (with_reducible exact Int.toNat_zero) | (with_reducible exact Int.toNat_one) | rfl) (by (omega)))) ?_) | (refine l_q rfl rfl rfl (by ((apply iq_fld; (exact q_fieldAddr tab rfl rfl rfl rfl rfl rfl rfl)))) ?_))) | refine d_seq ?_ | refine c_region ?_ | refine l_nil ?_ | (refine i_q ?_; (refine d_then ?_))))
    generalize hkb : min kz 20 = kb at *
    (refine l_call1 (X := memA p m) (by first | ((repeat (first | exact Ext.head | apply Ext.tail)); done) | fail) rfl rfl Try.func27 rfl (by decide) (fun w' h => write_spec h.split hkm z.who z.area z.at_ Az kb cz bs (h.roOf hrt (fun X hX => by simp at hX; simp [hX])) (by omega) z2 z3 (by omega) (by omega)) (fun v B hv => ?_); obtain ⟨m1, rfl, hm1, rfl⟩ := hv)
    have hk1 : MmOk m1.abs := by rw [hm1]; exact writeM_ok hkm (by omega)
    obtain ⟨f, hf⟩ : ∃ f, f = (writeM m.abs z.who z.area z.at_ bs).2 := ⟨_, rfl⟩
    rw [← hf]
    (repeat (first | (refine i_dst ?_; (first | (refine i_move ?_; refine l_q rfl rfl rfl (q_move rfl) ?_) | (refine i_assign ?_; refine l_q rfl rfl rfl (q_assign rfl) ?_) | (refine i_load ?_; refine l_q rfl rfl rfl (by ((exact q_ld1 tab rfl rfl rfl (by first | ((repeat (first | exact List.Mem.head _ | apply List.Mem.tail)); done) | fail) (by (rfl))))) ?_) | (refine i_bin ?_; refine l_q rfl rfl rfl (by (exact q_add rfl rfl (by (exact wr_i64 (by omega))))) ?_) | (refine i_blt ?_; refine l_q rfl rfl rfl (by (exact q_len tab rfl rfl)) ?_) | (refine l_q rfl rfl rfl (by ((apply iq_fld; (exact q_fieldAddr tab rfl rfl rfl rfl rfl rfl rfl)))) ?_))) | refine d_seq ?_ | refine c_region ?_ | refine l_nil ?_ | refine c_block ?_ | (refine i_q ?_; (refine d_then ?_))))
    refine d_loop (T := Nat) [5, 7, 8, 9, 13, 14, 15, 75] (fun k => [(76, .int .i64 k)]) [memA p m1, memA p2 m2, blk b8 [.int .i64 (goodM x).ram, .slice A1 (goodM x).segs.length c1, .slice none 0 0] 25, row 53 2 (.slice A1 (goodM x).segs.length c1) (goodM x).segs.length (segCells (goodM x).segs), blk b5 [.int .u8 z.kind, .int .u8 z.who, .int .u8 z.area, .int .u32 z.at_, .int .i64 z.n, .int .i64 z.m, .slice Az kz cz] 39]
      (fun _ => []) (fun k => k ≤ (goodM x).segs.length + 1) (fun k => (goodM x).segs.length + 1 - k) 0 (by first | ((repeat (first | exact Pick.nil | exact rfl | apply Pick.cons)); done) | fail) (Nat.zero_le _) (by first | ((repeat (first | exact trivial | exact rfl | apply Sub.cons | exact look_int rfl (by omega) | exact look_int rfl (by simp) | exact look_int rfl (by simp; omega))); done) | fail) (fun w h => h.pick [0, 1, 2, 3, 4] rfl) ?_
    clear hk hlt k
    intro k hk
    by_cases hlt : k < (goodM x).segs.length + 1
    · have hmany : m.abs.segs.length = (goodM x).segs.length := by rw [hks.segs]; exact good_manyS x
      obtain ⟨nn, hnn⟩ : ∃ nn, nn = lenM m.abs k := ⟨_, rfl⟩
      have hnn2 : nn = lenM (newM (goodM x)) k := by rw [hnn, hks.lenM (by rw [good_manyS]; omega)]
      (repeat (first | (refine i_dst ?_; (first | (refine i_move ?_; refine l_q rfl rfl rfl (q_move rfl) ?_) | (refine i_assign ?_; refine l_q rfl rfl rfl (q_assign rfl) ?_) | (refine i_bin ?_; refine l_q rfl rfl rfl (by (exact q_lss rfl rfl)) ?_) | (refine i_blt ?_; refine l_q rfl rfl rfl (by (exact q_len tab rfl rfl)) ?_) | (refine i_bldS ?_; refine l_bldS tab rfl rfl rfl rfl (by first | exact CellsOf.agg | exact CellsOf.one rfl) (by first | ((repeat (first | exact RepR.zero | exact AppR.nil | apply RepR.succ | apply AppR.cons)); done) | fail) (by first | ((repeat (first | exact FillR.nil | exact LSets.nil | exact LSet.zero | exact CellsOf.agg | exact rfl | exact CellsOf.one rfl | apply FillR.cons | apply LSets.cons | apply LSet.succ)); done) | fail) (fun w => by kernel_rfl) (fun _ => ?_)))) | refine d_seq ?_ | refine c_region ?_ | refine l_nil ?_ | refine c_block ?_ | (refine i_q ?_; (refine d_then ?_)) | refine c_skip ?_ | (refine i_cond ?_; (refine c_ct rfl (by (exact decide_eq_true (by omega))) ?_))))
      rename_i g7
      refine d_loop (T := Nat) [5, 7, 8, 9, 13, 14, 15, 16, 75, 76, 79, 80] (fun j => [(81, .int .i64 j)]) [memA p m1, memA p2 m2, blk b8 [.int .i64 (goodM x).ram, .slice A1 (goodM x).segs.length c1, .slice none 0 0] 25, row 53 2 (.slice A1 (goodM x).segs.length c1) (goodM x).segs.length (segCells (goodM x).segs), blk b5 [.int .u8 z.kind, .int .u8 z.who, .int .u8 z.area, .int .u32 z.at_, .int .i64 z.n, .int .i64 z.m, .slice Az kz cz] 39]
        (fun _ => [blk g7 [.int .u8 1, .int .u8 2] 5]) (fun j => j ≤ 2) (fun j => 2 - j) 0 (by first | ((repeat (first | exact Pick.nil | exact rfl | apply Pick.cons)); done) | fail) (Nat.zero_le _) (by first | ((repeat (first | exact trivial | exact rfl | apply Sub.cons | exact look_int rfl (by omega) | exact look_int rfl (by simp) | exact look_int rfl (by simp; omega))); done) | fail) (fun w h => h) ?_
      intro j hj
      by_cases hjl : j < 2
      · obtain ⟨who, hwho⟩ : ∃ who, who = j + 1 := ⟨_, rfl⟩
        have hwc : ([.int .u8 1, .int .u8 2] : List Value)[0 + ((j : Nat) : Int).toNat]? = some (.int .u8 (who : Int)) := by
          rw [Int.toNat_natCast, Nat.zero_add, hwho]
          rcases (by omega : j = 0 ∨ j = 1) with rfl | rfl <;> rfl
        obtain ⟨pl, ql, r1, r2, hpl, hql, ql_yes, ql_no⟩ := last_law (aw := z.who) (aa := z.area) (at_ := z.at_) (x := bs) hkm (show who = 1 ∨ who = 2 by omega) (by omega) hnn.symm (k := k)
        rw [← hm1] at r2
        rw [← hm2] at r1
        rw [← hf, hbsl] at ql_yes
        rw [← hf] at ql_no
        by_cases hk0 : k = 0
        · have hn3 : (goodM x).ram = (nn : Int) := by rw [hk0, good_lenR] at hnn2; omega
          rw [hn3]
          (repeat (first | (refine i_dst ?_; (first | (refine i_move ?_; refine l_q rfl rfl rfl (q_move rfl) ?_) | (refine i_assign ?_; refine l_q rfl rfl rfl (q_assign rfl) ?_) | (refine i_load ?_; refine l_q rfl rfl rfl (by ((exact q_ld1 tab rfl rfl rfl (by first | ((repeat (first | exact List.Mem.head _ | apply List.Mem.tail)); done) | fail) (by (first | rfl | assumption))))) ?_) | (refine i_bin ?_; refine l_q rfl rfl rfl (by (first | exact q_lss rfl rfl | exact q_gtr rfl rfl)) ?_) | (refine i_ix ?_; refine l_q rfl rfl rfl (by (exact q_indexAddr1 tab rfl rfl rfl rfl (by omega))) ?_) | (refine l_q rfl rfl rfl (by (first | (apply iq_fld; (exact q_fieldAddr tab rfl rfl rfl rfl rfl rfl rfl)) | (apply iq_cv; (exact q_conv tab rfl rfl rfl (by (exact wr_u8 (by omega))))))) ?_))) | refine d_seq ?_ | refine c_region ?_ | refine l_nil ?_ | refine c_block ?_ | (refine i_q ?_; (refine d_then ?_)) | refine c_skip ?_ | (refine i_cond ?_; (first | refine c_ct rfl (by (exact decide_eq_true (by omega))) ?_ | refine c_cf rfl (by (exact decide_eq_false (by omega))) ?_))))
          (refine l_call0 rfl rfl Try.func26 rfl (by decide) (fun w' h => read_spec (m := m2) (Ro.empty (h.mem (by first | ((repeat (first | exact List.Mem.head _ | apply List.Mem.tail)); done) | fail))) hkm2 who k 0 nn (by omega) (by omega) (by omega) (by omega) (by omega)) (fun v B hv => ?_); obtain ⟨A4, c4, rfl, rfl⟩ := hv)
          rw [r1]
          dsimp only
          rw [hpl]
          (repeat (first | (refine i_dst ?_; (first | (refine i_move ?_; refine l_q rfl rfl rfl (q_move rfl) ?_) | (refine i_assign ?_; refine l_q rfl rfl rfl (q_assign rfl) ?_) | (refine l_q rfl rfl rfl (by (first | exact q_extract rfl rfl | (apply iq_cv; (exact q_conv tab rfl rfl rfl (by (exact wr_u8 (by omega))))))) ?_))) | refine d_seq ?_ | refine c_region ?_ | refine l_nil ?_ | (refine i_q ?_; (refine d_then ?_))))
          (refine l_call0 rfl rfl Try.func26 rfl (by decide) (fun w' h => read_spec (m := m1) (Ro.empty (h.mem (by first | ((repeat (first | exact List.Mem.head _ | apply List.Mem.tail)); done) | fail))) hk1 who k 0 nn (by omega) (by omega) (by omega) (by omega) (by omega)) (fun v B hv => ?_); obtain ⟨A5, c5, rfl, rfl⟩ := hv)
          rw [r2]
          dsimp only
          rw [hql]
          by_cases hf0 : f = 0
          · by_cases hka : k = z.area
            · obtain ⟨hb1, rfl⟩ := ql_yes ⟨hf0, hka, .inl hk0⟩
              by_cases hb0 : kb = 0
              · have hbe : bs = [] := List.eq_nil_of_length_eq_zero (by omega)
                have hspl : spl pl z.at_ bs = pl := by simp [spl, hbe]
                rw [hspl]
                (repeat (first | (refine i_dst ?_; (first | (refine i_move ?_; refine l_q rfl rfl rfl (q_move rfl) ?_) | (refine i_assign ?_; refine l_q rfl rfl rfl (q_assign rfl) ?_) | (refine i_load ?_; refine l_q rfl rfl rfl (by ((exact q_ld1 tab rfl rfl rfl (by first | ((repeat (first | exact List.Mem.head _ | apply List.Mem.tail)); done) | fail) (by (rfl))))) ?_) | (refine i_bin ?_; refine l_q rfl rfl rfl (by (first | exact q_eql rfl rfl | exact q_neq rfl rfl | exact q_gtr rfl rfl | exact q_add rfl rfl (by (exact wr_i64 (by omega))))) ?_) | (refine i_blt ?_; refine l_q rfl rfl rfl (by (exact q_len tab rfl rfl)) ?_) | (refine i_sl ?_; refine l_q rfl rfl rfl (by (exact q_slLo tab rfl rfl rfl rfl (by first | (with_reducible exact Int.toNat_natCast _) | (with_reducible exact Int.toNat_zero) | (with_reducible exact Int.toNat_one) | rfl) (by (omega)))) ?_) | (refine l_q rfl rfl rfl (by (first | exact q_extract rfl rfl | (apply iq_fld; (exact q_fieldAddr tab rfl rfl rfl rfl rfl rfl rfl)) | (apply iq_cv; (exact q_conv tab rfl rfl rfl (by (exact wr_i64 (by omega))))) | exact q_pick_t rfl rfl | exact q_pick_f rfl rfl)) ?_))) | refine d_seq ?_ | refine c_region ?_ | refine l_nil ?_ | (refine i_q ?_; (refine d_then ?_)) | refine c_skip ?_ | (refine i_guard ?_; (first | refine l_gt rfl rfl rfl ?_ | (refine l_gtd rfl rfl rfl (by (first | ((first | (simp; done) | fail)) | exact decide_eq_true (by omega))) ?_))) | (refine i_cond ?_; (first | refine c_ct rfl (by (exact decide_eq_true (by omega))) ?_ | (refine c_cf rfl (by (first | ((first | (simp; done) | fail)) | exact decide_eq_false (by omega))) ?_)))))
                refine l_op rfl (fun K hK => e_copy0 tab rfl rfl rfl rfl rfl (by omega) (hK _ _ ?_))
                clear hK
                (repeat (first | (refine i_dst ?_; (first | (refine i_move ?_; refine l_q rfl rfl rfl (q_move rfl) ?_) | (refine i_bin ?_; refine l_q rfl rfl rfl (by (first | exact q_add rfl rfl (by (first | exact wr_i64 (by omega) | rfl)) | exact q_nes rfl rfl)) ?_) | (refine l_q rfl rfl rfl (by ((apply iq_cv; ((exact q_str tab rfl rfl rfl rfl (fun w h => roB_of (h.mem (by first | ((repeat (first | exact List.Mem.head _ | apply List.Mem.tail)); done) | fail)))))))) ?_))) | refine d_seq ?_ | refine c_region ?_ | refine l_nil ?_ | (refine i_q ?_; (first | refine d_then ?_ | refine t_then ?_ | refine t_block ?_)) | refine c_skip ?_ | (refine i_cond ?_; ((refine c_cf rfl (by (((first | (simp; done) | fail)))) ?_)))))
                exact k_again (j + 1) (by omega) (by omega) (by first | ((repeat (first | exact trivial | exact rfl | apply Sub.cons | exact look_int rfl (by omega) | exact look_int rfl (by simp) | exact look_int rfl (by simp; omega))); done) | fail) (fun w h => h.subl (by first | ((repeat (first | exact SubL.nil | apply SubL.keep | apply SubL.skip)); done) | fail))
              · refine l_ex (p := fun y : Nat × List Value => A4 = some ⟨y.1, 0, none⟩ ∧ nn ≤ c4 ∧ c4 ≤ maxLen ∧ (bv pl ++ y.2).length = c4 ∧ Oct pl) (hp' := fun y => [bytesA (.slice A5 nn c5) (spl pl z.at_ bs), blk y.1 (bv pl ++ y.2) 5, blk g7 [.int .u8 1, .int .u8 2] 5, memA p m1, memA p2 m2, blk b8 [.int .i64 nn, .slice A1 (goodM x).segs.length c1, .slice none 0 0] 25, row 53 2 (.slice A1 (goodM x).segs.length c1) (goodM x).segs.length (segCells (goodM x).segs), blk b5 [.int .u8 z.kind, .int .u8 z.who, .int .u8 z.area, .int .u32 z.at_, .int .i64 z.n, .int .i64 z.m, .slice Az kz cz] 39]) (fun w h => ?_) ?_
                · obtain ⟨y, ⟨y1, y2, y3, y4, y5, y6⟩, y7⟩ := bytesA_open (i := 1) (l := pl) h rfl (by omega)
                  exact ⟨y, ⟨y1, by omega, y4, y5, y6⟩, y7.pick [0, 1, 2, 3, 4, 5, 6, 7] rfl⟩
                rintro ⟨g3, junk⟩ ⟨rfl, hy3, hy4, hy5, hy6⟩
                dsimp only at hy5 ⊢
                have hcut : cutA (some ⟨g3, 0, none⟩) c4 z.at_ 1 = some ⟨g3, z.at_, none⟩ := by
                  rw [cutA, if_neg (by omega)]
                  simp [Addr.add_lit]
                (repeat (first | (refine i_dst ?_; (first | (refine i_move ?_; refine l_q rfl rfl rfl (q_move rfl) ?_) | (refine i_assign ?_; refine l_q rfl rfl rfl (q_assign rfl) ?_) | (refine i_load ?_; refine l_q rfl rfl rfl (by ((exact q_ld1 tab rfl rfl rfl (by first | ((repeat (first | exact List.Mem.head _ | apply List.Mem.tail)); done) | fail) (by (rfl))))) ?_) | (refine i_bin ?_; refine l_q rfl rfl rfl (by (first | exact q_eql rfl rfl | exact q_neq rfl rfl | exact q_gtr rfl rfl | exact q_add rfl rfl (by (exact wr_i64 (by omega))))) ?_) | (refine i_blt ?_; refine l_q rfl rfl rfl (by (exact q_len tab rfl rfl)) ?_) | (refine i_sl ?_; refine l_q rfl rfl rfl (by (exact q_slLo tab rfl rfl rfl rfl (by first | (with_reducible exact Int.toNat_natCast _) | (with_reducible exact Int.toNat_zero) | (with_reducible exact Int.toNat_one) | rfl) (by (omega)))) ?_) | (refine l_q rfl rfl rfl (by (first | exact q_extract rfl rfl | (apply iq_fld; (exact q_fieldAddr tab rfl rfl rfl rfl rfl rfl rfl)) | (apply iq_cv; (exact q_conv tab rfl rfl rfl (by (exact wr_i64 (by omega))))) | exact q_pick_t rfl rfl | exact q_pick_f rfl rfl)) ?_))) | refine d_seq ?_ | refine c_region ?_ | refine l_nil ?_ | (refine i_q ?_; (refine d_then ?_)) | refine c_skip ?_ | (refine i_guard ?_; (first | refine l_gt rfl rfl rfl ?_ | (refine l_gtd rfl rfl rfl (by (first | ((first | (simp; done) | fail)) | exact decide_eq_true (by omega))) ?_))) | (refine i_cond ?_; (first | refine c_ct rfl (by (exact decide_eq_true (by omega))) ?_ | (refine c_cf rfl (by (first | ((first | (simp; done) | fail)) | exact decide_eq_false (by omega))) ?_)))))
                rw [hcut]
                refine l_op rfl (fun K hK => e_copy tab (i := 1) (news := bv bs) rfl rfl rfl rfl rfl rfl ?_ (fun w h => roB_src (h.ro hrt)) (bv_one bs) (hK _ _ ?_))
                · rw [hy5]
                  omega
                clear hK
                rw [show min kb (nn - z.at_) = kb by omega, List.take_of_length_le (by simp; omega), setAt_bv (by omega)]
                refine l_hp (fun w h => h.see (i := 1) (Y := bytesA (.slice (some ⟨g3, 0, none⟩) nn c4) (spl pl z.at_ bs)) rfl (fun h => ?_) (fun b hb => blk_S (bytesA_S hb))) ?_
                · have := bytesA_shut (c := c4) h (hy6.spl hbso) (by rw [List.length_append, length_bv, hql]; rw [List.length_append, length_bv, hpl] at hy5; exact hy5) hy4
                  rw [hql] at this
                  exact this
                (repeat (first | (refine i_dst ?_; (first | (refine i_move ?_; refine l_q rfl rfl rfl (q_move rfl) ?_) | (refine i_bin ?_; refine l_q rfl rfl rfl (by (first | exact q_add rfl rfl (by (first | exact wr_i64 (by omega) | rfl)) | exact q_nes rfl rfl)) ?_) | (refine l_q rfl rfl rfl (by ((apply iq_cv; ((exact q_str tab rfl rfl rfl rfl (fun w h => roB_of (h.mem (by first | ((repeat (first | exact List.Mem.head _ | apply List.Mem.tail)); done) | fail)))))))) ?_))) | refine d_seq ?_ | refine c_region ?_ | refine l_nil ?_ | (refine i_q ?_; (first | refine d_then ?_ | refine t_then ?_ | refine t_block ?_)) | refine c_skip ?_ | (refine i_cond ?_; ((refine c_cf rfl (by (((first | (simp; done) | fail)))) ?_)))))
                exact k_again (j + 1) (by omega) (by omega) (by first | ((repeat (first | exact trivial | exact rfl | apply Sub.cons | exact look_int rfl (by omega) | exact look_int rfl (by simp) | exact look_int rfl (by simp; omega))); done) | fail) (fun w h => h.subl (by first | ((repeat (first | exact SubL.nil | apply SubL.keep | apply SubL.skip)); done) | fail))
            · obtain rfl := ql_no (fun h => hka h.2.1)
              (repeat (first | (refine i_dst ?_; (first | (refine i_move ?_; refine l_q rfl rfl rfl (q_move rfl) ?_) | (refine i_assign ?_; refine l_q rfl rfl rfl (q_assign rfl) ?_) | (refine i_load ?_; refine l_q rfl rfl rfl (by ((exact q_ld1 tab rfl rfl rfl (by first | ((repeat (first | exact List.Mem.head _ | apply List.Mem.tail)); done) | fail) (by (rfl))))) ?_) | (refine i_bin ?_; refine l_q rfl rfl rfl (by (first | exact q_eql rfl rfl | exact q_neq rfl rfl | exact q_gtr rfl rfl | exact q_add rfl rfl (by (first | exact wr_i64 (by omega) | rfl)) | exact q_nes rfl rfl)) ?_) | (refine i_blt ?_; refine l_q rfl rfl rfl (by (exact q_len tab rfl rfl)) ?_) | (refine l_q rfl rfl rfl (by (first | exact q_extract rfl rfl | (apply iq_fld; (exact q_fieldAddr tab rfl rfl rfl rfl rfl rfl rfl)) | (apply iq_cv; (first | exact q_conv tab rfl rfl rfl (by (exact wr_i64 (by omega))) | (exact q_str tab rfl rfl rfl rfl (fun w h => roB_of (h.mem (by first | ((repeat (first | exact List.Mem.head _ | apply List.Mem.tail)); done) | fail)))))) | exact q_pick_t rfl rfl | exact q_pick_f rfl rfl)) ?_))) | refine d_seq ?_ | refine c_region ?_ | refine l_nil ?_ | (refine i_q ?_; (first | refine d_then ?_ | refine t_then ?_ | refine t_block ?_)) | refine c_skip ?_ | (refine i_guard ?_; (first | refine l_gt rfl rfl rfl ?_ | (refine l_gtd rfl rfl rfl (by (first | ((first | (simp; done) | fail)) | exact decide_eq_true (by omega))) ?_) | refine l_gfd rfl rfl rfl (by (exact decide_eq_false (by omega))) rfl rfl ?_)) | (refine i_cond ?_; ((refine c_cf rfl (by (first | rfl | ((first | (simp; done) | fail)) | exact decide_eq_false (by omega))) ?_)))))
              exact k_again (j + 1) (by omega) (by omega) (by first | ((repeat (first | exact trivial | exact rfl | apply Sub.cons | exact look_int rfl (by omega) | exact look_int rfl (by simp) | exact look_int rfl (by simp; omega))); done) | fail) (fun w h => h.subl (by first | ((repeat (first | exact SubL.nil | apply SubL.keep | apply SubL.skip)); done) | fail))
          · obtain rfl := ql_no (fun h => hf0 h.1)
            (repeat (first | (refine i_dst ?_; (first | (refine i_move ?_; refine l_q rfl rfl rfl (q_move rfl) ?_) | (refine i_assign ?_; refine l_q rfl rfl rfl (q_assign rfl) ?_) | (refine i_bin ?_; refine l_q rfl rfl rfl (by (first | exact q_eql rfl rfl | exact q_neq rfl rfl | exact q_gtr rfl rfl | exact q_add rfl rfl (by (first | exact wr_i64 (by omega) | rfl)) | exact q_nes rfl rfl)) ?_) | (refine i_blt ?_; refine l_q rfl rfl rfl (by (exact q_len tab rfl rfl)) ?_) | (refine l_q rfl rfl rfl (by (first | exact q_extract rfl rfl | (apply iq_cv; ((exact q_str tab rfl rfl rfl rfl (fun w h => roB_of (h.mem (by first | ((repeat (first | exact List.Mem.head _ | apply List.Mem.tail)); done) | fail)))))) | exact q_pick_f rfl rfl)) ?_))) | refine d_seq ?_ | refine c_region ?_ | refine l_nil ?_ | (refine i_q ?_; (first | refine d_then ?_ | refine t_then ?_ | refine t_block ?_)) | refine c_skip ?_ | (refine i_guard ?_; (first | refine l_gt rfl rfl rfl ?_ | refine l_gf rfl rfl rfl rfl rfl rfl ?_ | (refine l_gtd rfl rfl rfl (by (((first | (simp; done) | fail)))) ?_) | refine l_gfd rfl rfl rfl (by (exact decide_eq_false (by omega))) rfl rfl ?_)) | (refine i_cond ?_; ((refine c_cf rfl (by (first | rfl | ((first | (simp; done) | fail)) | exact decide_eq_false (by omega))) ?_)))))
            exact k_again (j + 1) (by omega) (by omega) (by first | ((repeat (first | exact trivial | exact rfl | apply Sub.cons | exact look_int rfl (by omega) | exact look_int rfl (by simp) | exact look_int rfl (by simp; omega))); done) | fail) (fun w h => h.subl (by first | ((repeat (first | exact SubL.nil | apply SubL.keep | apply SubL.skip)); done) | fail))
        · obtain ⟨⟨s1, s2⟩, hsk⟩ : ∃ sg, (goodM x).segs[((k : Int) - 1).toNat]? = some sg := ⟨_, List.getElem?_eq_getElem (by omega)⟩
          have hg := good_seg hsk
          have hlen := good_lenS hsk
          rw [show ((k : Int) - 1).toNat + 1 = k by omega] at hlen
          obtain rfl : s1 = (nn : Int) := by rw [← hnn2] at hlen; dsimp only at hlen hg; omega
          dsimp only at hg
          have hpw : ∀ w s, pageM m1.abs w s = pageM m.abs w s := fun w s => by rw [hm1, page_write]
          (repeat (first | (refine i_dst ?_; (first | (refine i_move ?_; refine l_q rfl rfl rfl (q_move rfl) ?_) | (refine i_assign ?_; refine l_q rfl rfl rfl (q_assign rfl) ?_) | (refine i_load ?_; refine l_q rfl rfl rfl (by (first | (exact q_ld1 tab rfl rfl rfl (by first | ((repeat (first | exact List.Mem.head _ | apply List.Mem.tail)); done) | fail) (by (first | rfl | assumption))) | (exact q_ldF tab rfl rfl rfl (by ((exact fun w h => row_src (h.mem (by first | ((repeat (first | exact List.Mem.head _ | apply List.Mem.tail)); done) | fail))))) (by exact fun _ => rfl) (by assumption) (by exact rfl)))) ?_) | (refine i_bin ?_; refine l_q rfl rfl rfl (by (first | exact q_lss rfl rfl | exact q_gtr rfl rfl | exact q_sub rfl rfl (by (exact wr_i64 (by omega))))) ?_) | (refine i_ix ?_; refine l_q rfl rfl rfl (by (first | exact q_indexAddr1 tab rfl rfl rfl rfl (by omega) | (exact q_ixSN tab rfl rfl rfl rfl (by ((exact fun w h => row_src (h.mem (by first | ((repeat (first | exact List.Mem.head _ | apply List.Mem.tail)); done) | fail))))) (by first | (with_reducible exact Int.toNat_natCast _) | (with_reducible exact Int.toNat_zero) | (with_reducible exact Int.toNat_one) | rfl) (by (omega)) (by (omega))))) ?_) | (refine l_q rfl rfl rfl (by (first | (apply iq_fld; (first | exact q_fieldAddr tab rfl rfl rfl rfl rfl rfl rfl | (exact q_fldS tab rfl rfl rfl rfl rfl rfl rfl (by ((exact fun w h => row_src (h.mem (by first | ((repeat (first | exact List.Mem.head _ | apply List.Mem.tail)); done) | fail))))) (by (omega))))) | (apply iq_cv; (exact q_conv tab rfl rfl rfl (by (exact wr_u8 (by omega))))))) ?_))) | refine d_seq ?_ | refine c_region ?_ | refine l_nil ?_ | refine c_block ?_ | (refine i_q ?_; (refine d_then ?_)) | refine c_skip ?_ | (refine i_cond ?_; (refine c_ct rfl (by (exact decide_eq_true (by omega))) ?_))))
          (refine l_call0 rfl rfl Try.func26 rfl (by decide) (fun w' h => read_spec (m := m2) (Ro.empty (h.mem (by first | ((repeat (first | exact List.Mem.head _ | apply List.Mem.tail)); done) | fail))) hkm2 who k 0 nn (by omega) (by omega) (by omega) (by omega) (by omega)) (fun v B hv => ?_); obtain ⟨A4, c4, rfl, rfl⟩ := hv)
          rw [r1]
          dsimp only
          rw [hpl]
          (repeat (first | (refine i_dst ?_; (first | (refine i_move ?_; refine l_q rfl rfl rfl (q_move rfl) ?_) | (refine i_assign ?_; refine l_q rfl rfl rfl (q_assign rfl) ?_) | (refine l_q rfl rfl rfl (by (first | exact q_extract rfl rfl | (apply iq_cv; (exact q_conv tab rfl rfl rfl (by (exact wr_u8 (by omega))))))) ?_))) | refine d_seq ?_ | refine c_region ?_ | refine l_nil ?_ | (refine i_q ?_; (refine d_then ?_))))
          (refine l_call0 rfl rfl Try.func26 rfl (by decide) (fun w' h => read_spec (m := m1) (Ro.empty (h.mem (by first | ((repeat (first | exact List.Mem.head _ | apply List.Mem.tail)); done) | fail))) hk1 who k 0 nn (by omega) (by omega) (by omega) (by omega) (by omega)) (fun v B hv => ?_); obtain ⟨A5, c5, rfl, rfl⟩ := hv)
          rw [r2]
          dsimp only
          rw [hql]
          (repeat (first | (refine i_dst ?_; (first | (refine i_move ?_; refine l_q rfl rfl rfl (q_move rfl) ?_) | (refine i_assign ?_; refine l_q rfl rfl rfl (q_assign rfl) ?_) | (refine i_bin ?_; refine l_q rfl rfl rfl (by (first | exact q_eql rfl rfl | exact q_neq rfl rfl | exact q_gtr rfl rfl | exact q_sub rfl rfl (by (exact wr_i64 (by omega))))) ?_) | (refine i_blt ?_; refine l_q rfl rfl rfl (by (exact q_len tab rfl rfl)) ?_) | refine l_q rfl rfl rfl (by (first | exact q_extract rfl rfl | exact q_pick_f rfl rfl)) ?_)) | refine d_seq ?_ | refine c_region ?_ | refine l_nil ?_ | (refine i_q ?_; (refine d_then ?_)) | refine c_skip ?_ | (refine i_guard ?_; (first | refine l_gt rfl rfl rfl ?_ | (refine l_gtd rfl rfl rfl (by (((first | (simp; done) | fail)))) ?_))) | (refine i_cond ?_; (first | refine c_ct rfl (by (exact decide_eq_true (by omega))) ?_ | (refine c_cf rfl (by (((first | (simp; done) | fail)))) ?_)))))
          (refine l_call0 rfl rfl Try.func29 rfl (by decide) (fun w' h => page_spec (m := m1) (Ro.empty (h.mem (by first | ((repeat (first | exact List.Mem.head _ | apply List.Mem.tail)); done) | fail))) hk1 who ((k : Int) - 1) (by omega)) (fun v B hv => ?_); obtain ⟨rfl, rfl⟩ := hv)
          rw [hpw]
          (repeat (first | (refine i_dst ?_; (first | (refine i_move ?_; refine l_q rfl rfl rfl (q_move rfl) ?_) | (refine i_assign ?_; refine l_q rfl rfl rfl (q_assign rfl) ?_) | (refine i_load ?_; refine l_q rfl rfl rfl (by ((exact q_ld1 tab rfl rfl rfl (by first | ((repeat (first | exact List.Mem.head _ | apply List.Mem.tail)); done) | fail) (by (rfl))))) ?_) | (refine i_bin ?_; refine l_q rfl rfl rfl (by (exact q_sub rfl rfl (by (exact wr_i64 (by omega))))) ?_) | (refine l_q rfl rfl rfl (by (first | exact q_extract rfl rfl | (apply iq_fld; (exact q_fieldAddr tab rfl rfl rfl rfl rfl rfl rfl)))) ?_))) | refine d_seq ?_ | refine c_region ?_ | refine l_nil ?_ | (refine i_q ?_; (refine d_then ?_))))
          (refine l_call0 rfl rfl Try.func29 rfl (by decide) (fun w' h => page_spec (m := m1) (Ro.empty (h.mem (by first | ((repeat (first | exact List.Mem.head _ | apply List.Mem.tail)); done) | fail))) hk1 z.who ((k : Int) - 1) (by omega)) (fun v B hv => ?_); obtain ⟨rfl, rfl⟩ := hv)
          rw [hpw]
          (repeat (first | (refine i_dst ?_; (first | (refine i_move ?_; refine l_q rfl rfl rfl (q_move rfl) ?_) | (refine i_assign ?_; refine l_q rfl rfl rfl (q_assign rfl) ?_) | (refine i_bin ?_; refine l_q rfl rfl rfl (by (exact q_eql rfl rfl)) ?_) | refine l_q rfl rfl rfl (by (exact q_extract rfl rfl)) ?_)) | refine d_seq ?_ | refine c_region ?_ | refine l_nil ?_ | (refine i_q ?_; (refine d_then ?_))))
          by_cases hf0 : f = 0
          · by_cases hka : k = z.area
            · by_cases hsm : (pageM m.abs who ((k : Int) - 1)).1 = (pageM m.abs z.who ((k : Int) - 1)).1
              · obtain ⟨hb1, rfl⟩ := ql_yes ⟨hf0, hka, .inr hsm⟩
                by_cases hb0 : kb = 0
                · have hbe : bs = [] := List.eq_nil_of_length_eq_zero (by omega)
                  have hspl : spl pl z.at_ bs = pl := by simp [spl, hbe]
                  rw [hspl]
                  (repeat (first | (refine i_dst ?_; (first | (refine i_move ?_; refine l_q rfl rfl rfl (q_move rfl) ?_) | (refine i_load ?_; refine l_q rfl rfl rfl (by ((exact q_ld1 tab rfl rfl rfl (by first | ((repeat (first | exact List.Mem.head _ | apply List.Mem.tail)); done) | fail) (by (rfl))))) ?_) | (refine i_bin ?_; refine l_q rfl rfl rfl (by (first | exact q_eql rfl rfl | exact q_gtr rfl rfl | exact q_add rfl rfl (by (exact wr_i64 (by omega))))) ?_) | (refine i_blt ?_; refine l_q rfl rfl rfl (by (exact q_len tab rfl rfl)) ?_) | (refine i_sl ?_; refine l_q rfl rfl rfl (by (exact q_slLo tab rfl rfl rfl rfl (by first | (with_reducible exact Int.toNat_natCast _) | (with_reducible exact Int.toNat_zero) | (with_reducible exact Int.toNat_one) | rfl) (by (omega)))) ?_) | (refine l_q rfl rfl rfl (by (first | (apply iq_fld; (exact q_fieldAddr tab rfl rfl rfl rfl rfl rfl rfl)) | (apply iq_cv; (exact q_conv tab rfl rfl rfl (by (exact wr_i64 (by omega))))) | exact q_pick_t rfl rfl)) ?_))) | refine d_seq ?_ | refine c_region ?_ | refine l_nil ?_ | (refine i_q ?_; (refine d_then ?_)) | refine c_skip ?_ | (refine i_guard ?_; (first | refine l_gt rfl rfl rfl ?_ | refine l_gtd rfl rfl rfl (by (exact decide_eq_true (by omega))) ?_)) | (refine i_cond ?_; (first | refine c_ct rfl (by (exact decide_eq_true (by omega))) ?_ | refine c_cf rfl (by (exact decide_eq_false (by omega))) ?_))))
                  refine l_op rfl (fun K hK => e_copy0 tab rfl rfl rfl rfl rfl (by omega) (hK _ _ ?_))
                  clear hK
                  (repeat (first | (refine i_dst ?_; (first | (refine i_move ?_; refine l_q rfl rfl rfl (q_move rfl) ?_) | (refine i_bin ?_; refine l_q rfl rfl rfl (by (first | exact q_add rfl rfl (by (first | exact wr_i64 (by omega) | rfl)) | exact q_nes rfl rfl)) ?_) | (refine l_q rfl rfl rfl (by ((apply iq_cv; ((exact q_str tab rfl rfl rfl rfl (fun w h => roB_of (h.mem (by first | ((repeat (first | exact List.Mem.head _ | apply List.Mem.tail)); done) | fail)))))))) ?_))) | refine d_seq ?_ | refine c_region ?_ | refine l_nil ?_ | (refine i_q ?_; (first | refine d_then ?_ | refine t_then ?_ | refine t_block ?_)) | refine c_skip ?_ | (refine i_cond ?_; ((refine c_cf rfl (by (((first | (simp; done) | fail)))) ?_)))))
                  exact k_again (j + 1) (by omega) (by omega) (by first | ((repeat (first | exact trivial | exact rfl | apply Sub.cons | exact look_int rfl (by omega) | exact look_int rfl (by simp) | exact look_int rfl (by simp; omega))); done) | fail) (fun w h => h.subl (by first | ((repeat (first | exact SubL.nil | apply SubL.keep | apply SubL.skip)); done) | fail))
                · refine l_ex (p := fun y : Nat × List Value => A4 = some ⟨y.1, 0, none⟩ ∧ nn ≤ c4 ∧ c4 ≤ maxLen ∧ (bv pl ++ y.2).length = c4 ∧ Oct pl) (hp' := fun y => [bytesA (.slice A5 nn c5) (spl pl z.at_ bs), blk y.1 (bv pl ++ y.2) 5, blk g7 [.int .u8 1, .int .u8 2] 5, memA p m1, memA p2 m2, blk b8 [.int .i64 (goodM x).ram, .slice A1 (goodM x).segs.length c1, .slice none 0 0] 25, row 53 2 (.slice A1 (goodM x).segs.length c1) (goodM x).segs.length (segCells (goodM x).segs), blk b5 [.int .u8 z.kind, .int .u8 z.who, .int .u8 z.area, .int .u32 z.at_, .int .i64 z.n, .int .i64 z.m, .slice Az kz cz] 39]) (fun w h => ?_) ?_
                  · obtain ⟨y, ⟨y1, y2, y3, y4, y5, y6⟩, y7⟩ := bytesA_open (i := 1) (l := pl) h rfl (by omega)
                    exact ⟨y, ⟨y1, by omega, y4, y5, y6⟩, y7.pick [0, 1, 2, 3, 4, 5, 6, 7] rfl⟩
                  rintro ⟨g3, junk⟩ ⟨rfl, hy3, hy4, hy5, hy6⟩
                  dsimp only at hy5 ⊢
                  have hcut : cutA (some ⟨g3, 0, none⟩) c4 z.at_ 1 = some ⟨g3, z.at_, none⟩ := by
                    rw [cutA, if_neg (by omega)]
                    simp [Addr.add_lit]
                  (repeat (first | (refine i_dst ?_; (first | (refine i_move ?_; refine l_q rfl rfl rfl (q_move rfl) ?_) | (refine i_load ?_; refine l_q rfl rfl rfl (by ((exact q_ld1 tab rfl rfl rfl (by first | ((repeat (first | exact List.Mem.head _ | apply List.Mem.tail)); done) | fail) (by (rfl))))) ?_) | (refine i_bin ?_; refine l_q rfl rfl rfl (by (first | exact q_eql rfl rfl | exact q_gtr rfl rfl | exact q_add rfl rfl (by (exact wr_i64 (by omega))))) ?_) | (refine i_blt ?_; refine l_q rfl rfl rfl (by (exact q_len tab rfl rfl)) ?_) | (refine i_sl ?_; refine l_q rfl rfl rfl (by (exact q_slLo tab rfl rfl rfl rfl (by first | (with_reducible exact Int.toNat_natCast _) | (with_reducible exact Int.toNat_zero) | (with_reducible exact Int.toNat_one) | rfl) (by (omega)))) ?_) | (refine l_q rfl rfl rfl (by (first | (apply iq_fld; (exact q_fieldAddr tab rfl rfl rfl rfl rfl rfl rfl)) | (apply iq_cv; (exact q_conv tab rfl rfl rfl (by (exact wr_i64 (by omega))))) | exact q_pick_t rfl rfl)) ?_))) | refine d_seq ?_ | refine c_region ?_ | refine l_nil ?_ | (refine i_q ?_; (refine d_then ?_)) | refine c_skip ?_ | (refine i_guard ?_; (first | refine l_gt rfl rfl rfl ?_ | refine l_gtd rfl rfl rfl (by (exact decide_eq_true (by omega))) ?_)) | (refine i_cond ?_; (first | refine c_ct rfl (by (exact decide_eq_true (by omega))) ?_ | refine c_cf rfl (by (exact decide_eq_false (by omega))) ?_))))
                  rw [hcut]
                  refine l_op rfl (fun K hK => e_copy tab (i := 1) (news := bv bs) rfl rfl rfl rfl rfl rfl ?_ (fun w h => roB_src (h.ro hrt)) (bv_one bs) (hK _ _ ?_))
                  · rw [hy5]
                    omega
                  clear hK
                  rw [show min kb (nn - z.at_) = kb by omega, List.take_of_length_le (by simp; omega), setAt_bv (by omega)]
                  refine l_hp (fun w h => h.see (i := 1) (Y := bytesA (.slice (some ⟨g3, 0, none⟩) nn c4) (spl pl z.at_ bs)) rfl (fun h => ?_) (fun b hb => blk_S (bytesA_S hb))) ?_
                  · have := bytesA_shut (c := c4) h (hy6.spl hbso) (by rw [List.length_append, length_bv, hql]; rw [List.length_append, length_bv, hpl] at hy5; exact hy5) hy4
                    rw [hql] at this
                    exact this
                  (repeat (first | (refine i_dst ?_; (first | (refine i_move ?_; refine l_q rfl rfl rfl (q_move rfl) ?_) | (refine i_bin ?_; refine l_q rfl rfl rfl (by (first | exact q_add rfl rfl (by (first | exact wr_i64 (by omega) | rfl)) | exact q_nes rfl rfl)) ?_) | (refine l_q rfl rfl rfl (by ((apply iq_cv; ((exact q_str tab rfl rfl rfl rfl (fun w h => roB_of (h.mem (by first | ((repeat (first | exact List.Mem.head _ | apply List.Mem.tail)); done) | fail)))))))) ?_))) | refine d_seq ?_ | refine c_region ?_ | refine l_nil ?_ | (refine i_q ?_; (first | refine d_then ?_ | refine t_then ?_ | refine t_block ?_)) | refine c_skip ?_ | (refine i_cond ?_; ((refine c_cf rfl (by (((first | (simp; done) | fail)))) ?_)))))
                  exact k_again (j + 1) (by omega) (by omega) (by first | ((repeat (first | exact trivial | exact rfl | apply Sub.cons | exact look_int rfl (by omega) | exact look_int rfl (by simp) | exact look_int rfl (by simp; omega))); done) | fail) (fun w h => h.subl (by first | ((repeat (first | exact SubL.nil | apply SubL.keep | apply SubL.skip)); done) | fail))
              · obtain rfl := ql_no (fun h => h.2.2.elim hk0 hsm)
                (repeat (first | (refine i_dst ?_; (first | (refine i_move ?_; refine l_q rfl rfl rfl (q_move rfl) ?_) | (refine i_load ?_; refine l_q rfl rfl rfl (by ((exact q_ld1 tab rfl rfl rfl (by first | ((repeat (first | exact List.Mem.head _ | apply List.Mem.tail)); done) | fail) (by (rfl))))) ?_) | (refine i_bin ?_; refine l_q rfl rfl rfl (by (first | exact q_eql rfl rfl | exact q_add rfl rfl (by (first | exact wr_i64 (by omega) | rfl)) | exact q_nes rfl rfl)) ?_) | (refine l_q rfl rfl rfl (by (first | (apply iq_fld; (exact q_fieldAddr tab rfl rfl rfl rfl rfl rfl rfl)) | (apply iq_cv; (first | exact q_conv tab rfl rfl rfl (by (exact wr_i64 (by omega))) | (exact q_str tab rfl rfl rfl rfl (fun w h => roB_of (h.mem (by first | ((repeat (first | exact List.Mem.head _ | apply List.Mem.tail)); done) | fail)))))) | exact q_pick_t rfl rfl)) ?_))) | refine d_seq ?_ | refine c_region ?_ | refine l_nil ?_ | (refine i_q ?_; (first | refine d_then ?_ | refine t_then ?_ | refine t_block ?_)) | refine c_skip ?_ | (refine i_guard ?_; (first | refine l_gt rfl rfl rfl ?_ | refine l_gtd rfl rfl rfl (by (exact decide_eq_true (by omega))) ?_)) | (refine i_cond ?_; ((refine c_cf rfl (by (first | ((first | (simp; done) | fail)) | exact decide_eq_false (by omega))) ?_)))))
                exact k_again (j + 1) (by omega) (by omega) (by first | ((repeat (first | exact trivial | exact rfl | apply Sub.cons | exact look_int rfl (by omega) | exact look_int rfl (by simp) | exact look_int rfl (by simp; omega))); done) | fail) (fun w h => h.subl (by first | ((repeat (first | exact SubL.nil | apply SubL.keep | apply SubL.skip)); done) | fail))
            · obtain rfl := ql_no (fun h => hka h.2.1)
              (repeat (first | (refine i_dst ?_; (first | (refine i_move ?_; refine l_q rfl rfl rfl (q_move rfl) ?_) | (refine i_load ?_; refine l_q rfl rfl rfl (by ((exact q_ld1 tab rfl rfl rfl (by first | ((repeat (first | exact List.Mem.head _ | apply List.Mem.tail)); done) | fail) (by (rfl))))) ?_) | (refine i_bin ?_; refine l_q rfl rfl rfl (by (first | exact q_eql rfl rfl | exact q_add rfl rfl (by (first | exact wr_i64 (by omega) | rfl)) | exact q_nes rfl rfl)) ?_) | (refine l_q rfl rfl rfl (by (first | (apply iq_fld; (exact q_fieldAddr tab rfl rfl rfl rfl rfl rfl rfl)) | (apply iq_cv; (first | exact q_conv tab rfl rfl rfl (by (exact wr_i64 (by omega))) | (exact q_str tab rfl rfl rfl rfl (fun w h => roB_of (h.mem (by first | ((repeat (first | exact List.Mem.head _ | apply List.Mem.tail)); done) | fail)))))) | exact q_pick_t rfl rfl | exact q_pick_f rfl rfl)) ?_))) | refine d_seq ?_ | refine c_region ?_ | refine l_nil ?_ | (refine i_q ?_; (first | refine d_then ?_ | refine t_then ?_ | refine t_block ?_)) | refine c_skip ?_ | (refine i_guard ?_; (first | refine l_gt rfl rfl rfl ?_ | refine l_gtd rfl rfl rfl (by (exact decide_eq_true (by omega))) ?_ | refine l_gfd rfl rfl rfl (by (exact decide_eq_false (by omega))) rfl rfl ?_)) | (refine i_cond ?_; ((refine c_cf rfl (by (first | rfl | ((first | (simp; done) | fail)))) ?_)))))
              exact k_again (j + 1) (by omega) (by omega) (by first | ((repeat (first | exact trivial | exact rfl | apply Sub.cons | exact look_int rfl (by omega) | exact look_int rfl (by simp) | exact look_int rfl (by simp; omega))); done) | fail) (fun w h => h.subl (by first | ((repeat (first | exact SubL.nil | apply SubL.keep | apply SubL.skip)); done) | fail))
          · obtain rfl := ql_no (fun h => hf0 h.1)
            (repeat (first | (refine i_dst ?_; (first | (refine i_move ?_; refine l_q rfl rfl rfl (q_move rfl) ?_) | (refine i_bin ?_; refine l_q rfl rfl rfl (by (first | exact q_add rfl rfl (by (first | exact wr_i64 (by omega) | rfl)) | exact q_nes rfl rfl)) ?_) | (refine l_q rfl rfl rfl (by (first | (apply iq_cv; ((exact q_str tab rfl rfl rfl rfl (fun w h => roB_of (h.mem (by first | ((repeat (first | exact List.Mem.head _ | apply List.Mem.tail)); done) | fail)))))) | exact q_pick_f rfl rfl)) ?_))) | refine d_seq ?_ | refine c_region ?_ | refine l_nil ?_ | (refine i_q ?_; (first | refine d_then ?_ | refine t_then ?_ | refine t_block ?_)) | refine c_skip ?_ | (refine i_guard ?_; (first | refine l_gf rfl rfl rfl rfl rfl rfl ?_ | refine l_gfd rfl rfl rfl (by (exact decide_eq_false (by omega))) rfl rfl ?_)) | (refine i_cond ?_; ((refine c_cf rfl (by (first | rfl | ((first | (simp; done) | fail)))) ?_)))))
            exact k_again (j + 1) (by omega) (by omega) (by first | ((repeat (first | exact trivial | exact rfl | apply Sub.cons | exact look_int rfl (by omega) | exact look_int rfl (by simp) | exact look_int rfl (by simp; omega))); done) | fail) (fun w h => h.subl (by first | ((repeat (first | exact SubL.nil | apply SubL.keep | apply SubL.skip)); done) | fail))
      · (repeat (first | (refine i_dst ?_; (first | (refine i_move ?_; refine l_q rfl rfl rfl (q_move rfl) ?_) | (refine i_bin ?_; refine l_q rfl rfl rfl (by (first | exact q_lss rfl rfl | exact q_add rfl rfl (by (exact wr_i64 (by omega))))) ?_))) | refine d_seq ?_ | refine c_region ?_ | refine l_nil ?_ | (refine i_q ?_; (first | refine d_then ?_ | refine t_then ?_ | refine d_then_exit ?_ | refine t_then_exit ?_ | refine t_block ?_ | refine t_block_eq rfl ?_)) | refine c_exit ?_ | (refine i_cond ?_; (refine c_cf rfl (by (exact decide_eq_false (by omega))) ?_))))
        exact k_again (k + 1) (by omega) (by omega) (by first | ((repeat (first | exact trivial | exact rfl | apply Sub.cons | exact look_int rfl (by omega) | exact look_int rfl (by simp) | exact look_int rfl (by simp; omega))); done) | fail) (fun w h => h.subl (by first | ((repeat (first | exact SubL.nil | apply SubL.keep | apply SubL.skip)); done) | fail))
    · (repeat (first | (refine i_dst ?_; (first | (refine i_move ?_; refine l_q rfl rfl rfl (q_move rfl) ?_) | (refine i_assign ?_; refine l_q rfl rfl rfl (q_assign rfl) ?_) | (refine i_bin ?_; refine l_q rfl rfl rfl (by (exact q_lss rfl rfl)) ?_))) | refine d_seq ?_ | refine c_region ?_ | refine l_nil ?_ | (refine i_q ?_; (first | refine d_then ?_ | refine d_then_exit ?_ | refine t_then_exit ?_ | refine t_block_eq rfl ?_)) | refine c_exit ?_ | refine c_ret ?_ | (refine i_cond ?_; (refine c_cf rfl (by (exact decide_eq_false (by omega))) ?_))))
      exact t_ret1 Try.results9 rfl rfl
end Go.Proofs.Ytecnodkjjpjglaa

/-
  Layer 12: FirePages, walked.
-/
import Derived.Test.YtkeekkdaielipaaV8
import Derived.Test.YtkeekkdaielipaaV1
set_option linter.unusedVariables false
set_option maxRecDepth 100000
namespace Go.Proofs.Ytkeekkdaielipaa
open Go.RowKit
attribute [local irreducible] TL TC TQ TK TO Qt TA

theorem read_set2 {M : Mm} {seg page : Int} {area : Nat} {at_ n : Int} : readM (setM M 2 seg page).1 1 area at_ n = readM M 1 area at_ n := by
  have key : areaM (setM M 2 seg page).1 1 area = areaM M 1 area := by
    unfold setM
    split
    · rfl
    · split
      · rfl
      · rename_i s hs
        obtain ⟨h0, h1, h2⟩ := there_get hs
        rw [areaM, areaM]
        by_cases ha : area = 0
        · rw [if_pos ha, if_pos ha]
        · rw [if_neg ha, if_neg ha]
          dsimp only
          by_cases e : seg.toNat = area - 1
          · rw [← e, get_set h1, h1]
            rfl
          · rw [List.getElem?_set_ne e]
  rw [readM, readM, key]
theorem ent_set2 {M : Mm} {seg page : Int} (e : EntryI) : entM (setM M 2 seg page).1 e = entM M e := by rw [entM, entM, read_set2]
def pgX : MapI := ⟨0, [(4, 3)], []⟩
theorem pgX_ok : okMap pgX := ⟨by decide, by decide, by decide, by decide, fun i s h => by
  match i, h with
  | 0, h => injection h with h; subst h; exact ⟨by decide, by decide, by decide, by decide, by decide⟩⟩
def pgL (e : EntryI) : ListI := ⟨0, [[e]], false, 0, 0, 0, false, false⟩
theorem pg_in {S : Nat → Prop} {w0 : World} {b1 b2 : Nat} {e : EntryI} (h1 : Ro S w0 (blk b1 [.int .u8 e.size, .int .u8 e.area, .int .u32 e.at_] 38)) (he : e.size ≤ 255 ∧ e.area ≤ 255 ∧ e.at_ ≤ 4294967295) (h2 : Ro S w0 (blk b2 [.slice (some ⟨b1, 0, none⟩) 1 1] 39)) :
    InList S w0 [.int .i64 0, .slice (some ⟨b2, 0, none⟩) 1 1, .bool false, .int .u8 0, .int .u8 0, .int .u8 0, .bool false, .bool false] (pgL e) := by
  refine ⟨⟨some ⟨b2, 0, none⟩, 1, 1, rfl, ?_, Nat.le_refl _, by simp [maxLen]⟩, by simp [pgL], Nat.zero_le _, Nat.zero_le _, Nat.zero_le _⟩
  refine InS.blk (sz := 1) (xs := [[e]]) (rows := [[.slice (some ⟨b1, 0, none⟩) 1 1]]) h2 rfl (by simp) (fun i r x hr hx => ?_)
  obtain rfl : i = 0 := by
    have := (List.getElem?_eq_some_iff.1 hr).1
    rw [List.length_singleton] at this
    omega
  obtain rfl : [.slice (some ⟨b1, 0, none⟩) 1 1] = r := by simpa using hr
  obtain rfl : [e] = x := by simpa using hx
  refine ⟨_, 1, 1, rfl, InS.blk (sz := 3) (xs := [e]) (rows := [[.int .u8 e.size, .int .u8 e.area, .int .u32 e.at_]]) h1 rfl (by simp) (fun i r x hr hx => ?_), Nat.le_refl _, by simp [maxLen]⟩
  obtain rfl : i = 0 := by
    have := (List.getElem?_eq_some_iff.1 hr).1
    rw [List.length_singleton] at this
    omega
  obtain rfl : [.int .u8 e.size, .int .u8 e.area, .int .u32 e.at_] = r := by simpa using hr
  obtain rfl : e = x := by simpa using hx
  exact ⟨rfl, he⟩
theorem rep_ro {S : Nat → Prop} {w0 w : World} {hp : List Asn} {x : RepV} (h : St S w0 hp w) (hm : starL [repB x] ∈ hp) {A : Option Addr} {n c : Nat} (hv : x.v = .slice A n c) : (roB A n x.b).C w := by
  have h1 : (bytesA x.v x.b).C w := starL_get (h.mem hm) (i := 0) rfl
  rw [hv] at h1
  exact roB_of h1
attribute [local irreducible] blk row bytesA starL memA segA roB

attribute [local irreducible] repB

set_option maxHeartbeats 8000000 in
theorem firePages_walk (W : World) (app xcp at_ size : Nat) (happ : app ≤ 255) (hxcp : xcp ≤ 255) (hat : at_ ≤ 255) (hsz : size ≤ 255) (B0 B1 : Option Addr) (k0 c0 k1 c1 : Nat) (l0 l1 : List Int) (hb0 : (roB B0 k0 l0).C W) (hb1 : (roB B1 k1 l1).C W) (hk0 : k0 ≤ c0) (hk1 : k1 ≤ c1) (hc0 : c0 ≤ maxLen) (hc1 : c1 ≤ maxLen) :
    Calls Try.prog 13 #[.int .u8 app, .int .u8 xcp, .agg #[.slice B0 k0 c0, .slice B1 k1 c1], .int .u8 at_, .int .u8 size] W (Ret W [] fun v _ => v = .bool true) := by
  refine enter (vs := [.int .u8 app, .int .u8 xcp, .agg #[.slice B0 k0 c0, .slice B1 k1 c1], .int .u8 at_, .int .u8 size]) Try.func13 rfl Try.ntmps13 rfl (Hold.nil W) ?_
  have hmx : maxLen = 2 ^ 63 - 1 := rfl
  have hr0 := (Ro.empty hb0).take (k := min k0 4) (by omega)
  have hr1 := (Ro.empty hb1).take (k := min k1 4) (by omega)
  clear hb0 hb1
  (repeat (first | (refine i_dst ?_; (first | (refine i_assign ?_; refine l_q rfl rfl rfl (q_assign rfl) ?_) | (refine i_box ?_; (refine l_boxA rfl rfl (fun _ => ?_))))) | refine d_seq ?_ | refine c_region ?_ | refine l_nil ?_ | (refine i_q ?_; (refine d_then ?_))))
  rename_i b7
  (refine l_call0 rfl rfl Try.func26 rfl (by decide) (fun w' h => shown12_spec w') (fun v B hv => ?_); obtain ⟨rfl, rfl⟩ := hv)
  (repeat (first | (refine i_dst ?_; (first | (refine i_assign ?_; refine l_q rfl rfl rfl (q_assign rfl) ?_) | (refine i_bldS ?_; refine l_bldS tab rfl rfl rfl rfl (by first | exact CellsOf.agg | exact CellsOf.one rfl) (by first | ((repeat (first | exact RepR.zero | exact AppR.nil | apply RepR.succ | apply AppR.cons)); done) | fail) (by first | ((repeat (first | exact FillR.nil | exact LSets.nil | exact LSet.zero | exact CellsOf.agg | exact rfl | exact CellsOf.one rfl | apply FillR.cons | apply LSets.cons | apply LSet.succ)); done) | fail) (fun w => by kernel_rfl) (fun _ => ?_)) | (refine l_q rfl rfl rfl (by ((apply iq_bld; ((exact q_bld tab rfl rfl rfl (by first | ((repeat (first | exact FillR.nil | exact LSets.nil | exact LSet.zero | exact CellsOf.agg | exact rfl | exact CellsOf.one rfl | apply FillR.cons | apply LSets.cons | apply LSet.succ)); done) | fail) (fun w => by kernel_rfl)))))) ?_))) | refine d_seq ?_ | refine c_region ?_ | refine l_nil ?_ | (refine i_q ?_; (refine d_then ?_))))
  rename_i gs
  (refine l_call0 rfl rfl Try.func15 rfl (by decide) (fun w' h => new_spec _ pgX w' ⟨⟨_, 1, none, 0, 0, rfl, Nat.le_refl _, by simp [maxLen], Ro.empty (roV_blk (h.mem (X := blk gs (segCells [(4, 3)]) 56) (by first | ((repeat (first | exact List.Mem.head _ | apply List.Mem.tail)); done) | fail)) rfl), InBB.nil, Nat.le_refl _, Nat.zero_le _⟩⟩) (fun v B hv => ?_); obtain ⟨_, p, m, rfl, rfl, hm⟩ | ⟨hno, _⟩ := hv)
  rotate_left
  · exact absurd pgX_ok hno
  have hk : MmOk m.abs := by rw [hm]; exact newM_ok pgX_ok
  clear hm
  (repeat (first | (refine i_dst ?_; (first | (refine i_move ?_; refine l_q rfl rfl rfl (q_move rfl) ?_) | (refine i_assign ?_; refine l_q rfl rfl rfl (q_assign rfl) ?_) | (refine i_bin ?_; refine l_q rfl rfl rfl (by (first | exact q_neq rfl rfl | exact q_eqnil tab rfl rfl rfl)) ?_) | refine l_q rfl rfl rfl (by (first | exact q_extract rfl rfl | exact q_pick_f rfl rfl)) ?_)) | refine d_seq ?_ | refine c_region ?_ | refine l_nil ?_ | refine c_block ?_ | (refine i_q ?_; (refine d_then ?_)) | refine c_skip ?_ | (refine i_guard ?_; (refine l_gt rfl rfl rfl ?_)) | (refine i_cond ?_; (refine c_cf rfl (by (rfl)) ?_))))
  refine d_loop (T := Nat × MemV) [0, 1, 3, 4, 7, 11, 12] (fun t => [(32, .int .i64 t.1)]) [blk b7 [.slice B0 k0 c0, .slice B1 k1 c1] 104] (fun t => [memA p t.2]) (fun t => t.1 ≤ 2 ∧ MmOk t.2.abs) (fun t => 2 - t.1) (0, m) (by first | ((repeat (first | exact Pick.nil | exact rfl | apply Pick.cons)); done) | fail) ⟨Nat.zero_le _, hk⟩ (by first | ((repeat (first | exact trivial | exact rfl | apply Sub.cons | exact look_int rfl (by omega) | exact look_int rfl (by simp) | exact look_int rfl (by simp; omega))); done) | fail) (fun w h => h.psub (by first | ((repeat (first | exact PSub.nil | exact Ext.head | apply Ext.tail | apply PSub.cons)); done) | fail)) ?_
  clear hk m
  rintro ⟨i, m⟩ ⟨hi, hk⟩
  dsimp only at hi hk ⊢
  by_cases hlt : i < 2
  · (repeat (first | (refine i_dst ?_; (first | (refine i_move ?_; refine l_q rfl rfl rfl (q_move rfl) ?_) | (refine i_assign ?_; refine l_q rfl rfl rfl (q_assign rfl) ?_) | (refine i_bin ?_; refine l_q rfl rfl rfl (by (first | exact q_lss rfl rfl | exact q_add rfl rfl (by (exact wr_i64 (by omega))))) ?_))) | refine d_seq ?_ | refine c_region ?_ | refine l_nil ?_ | refine c_block ?_ | (refine i_q ?_; (refine d_then ?_)) | refine c_skip ?_ | (refine i_cond ?_; (refine c_ct rfl (by (exact decide_eq_true (by omega))) ?_))))
    (refine l_call1 (X := memA p m) (by first | ((repeat (first | exact Ext.head | apply Ext.tail)); done) | fail) rfl rfl Try.func23 rfl (by decide) (fun w' h => set_spec h.split hk 1 0 ((i : Int) + 1) (by omega)) (fun v B hv => ?_); obtain ⟨m1, rfl, hm1, rfl⟩ := hv)
    have hk1' : MmOk m1.abs := by rw [hm1]; exact setM_ok hk
    rcases (by omega : i = 0 ∨ i = 1) with rfl | rfl
    · (repeat (first | refine l_nil ?_ | (refine i_q ?_; (refine d_then ?_))))
      (refine a_begin mixed [blk b7 [.slice B0 k0 c0, .slice B1 k1 c1] 104] 11 rfl (fun w h => h.subl (by first | ((repeat (first | exact SubL.nil | apply SubL.keep | apply SubL.skip)); done) | fail)) ?_)
      ((refine a_q 0 rfl rfl rfl rfl rfl (by decide +kernel) (q_move rfl) ?_; refine a_q 1 rfl rfl rfl rfl rfl (by decide +kernel) (q_move rfl) ?_; refine a_q 2 rfl rfl rfl rfl rfl (by decide +kernel) (by (exact q_indexAddrA1 tab rfl rfl rfl rfl (by omega))) ?_; ((refine a_q 3 rfl rfl rfl rfl rfl (by decide +kernel) (by ((exact q_ld1 tab rfl rfl rfl (by first | ((repeat (first | exact List.Mem.head _ | apply List.Mem.tail)); done) | fail) (by (rfl))))) ?_)); refine a_q 4 rfl rfl rfl rfl rfl (by decide +kernel) (q_move rfl) ?_; refine a_q 5 rfl rfl rfl rfl rfl (by decide +kernel) (by (exact q_indexAddrA1 tab rfl rfl rfl rfl (by omega))) ?_; ((refine a_q 6 rfl rfl rfl rfl rfl (by decide +kernel) (by ((exact q_ld1 tab rfl rfl rfl (by first | ((repeat (first | exact List.Mem.head _ | apply List.Mem.tail)); done) | fail) (by (rfl))))) ?_)); refine a_q 7 rfl rfl rfl rfl rfl (by decide +kernel) (by (exact q_len tab rfl rfl)) ?_; refine a_q 8 rfl rfl rfl rfl rfl (by decide +kernel) (by (exact q_minN rfl rfl)) ?_; refine a_q 9 rfl rfl rfl rfl rfl (by decide +kernel) (by (exact q_slHi tab rfl rfl rfl rfl (by first | (with_reducible exact Int.toNat_natCast _) | (with_reducible exact Int.toNat_zero) | (with_reducible exact Int.toNat_one) | rfl) (by (omega)))) ?_))
      (refine a_e 10 rfl (by decide +kernel) rfl (fun K hK => e_call1 (X := memA p m1) (by first | ((repeat (first | exact Ext.head | apply Ext.tail)); done) | fail) rfl rfl Try.func24 rfl (by decide) (fun w' h => write_spec h.split hk1' 1 1 0 B0 (min k0 4) c0 _ (h.roOf hr0 (fun X hX => by simp at hX; simp [hX])) (by omega) (by omega) (by omega) (by omega) (by omega)) (fun v B hv => ?_)); obtain ⟨m2, rfl, hm2, rfl⟩ := hv; refine hK _ _ (fun w h => h.subl (by first | ((repeat (first | exact SubL.nil | apply SubL.keep | apply SubL.skip)); done) | fail)) ?_; clear hK)
      refine a_done (by decide +kernel) ?_
      (repeat (first | (refine i_dst ?_; (first | (refine i_move ?_; refine l_q rfl rfl rfl (q_move rfl) ?_) | (refine i_bin ?_; refine l_q rfl rfl rfl (by (exact q_add rfl rfl (by (exact wr_i64 (by omega))))) ?_))) | refine c_region ?_ | refine l_nil ?_ | (refine i_q ?_; (first | refine d_then ?_ | refine t_then ?_ | refine t_block ?_))))
      exact k_again (1, m2) ⟨by dsimp only; omega, by dsimp only; rw [hm2]; exact writeM_ok hk1' (by omega)⟩ (by dsimp only; omega) (by first | ((repeat (first | exact trivial | exact rfl | apply Sub.cons | exact look_int rfl (by omega) | exact look_int rfl (by simp) | exact look_int rfl (by simp; omega))); done) | fail) (fun w h => h.psub (by first | ((repeat (first | exact PSub.nil | exact Ext.head | apply Ext.tail | apply PSub.cons)); done) | fail))
    · (repeat (first | refine l_nil ?_ | (refine i_q ?_; (refine d_then ?_))))
      (refine a_begin mixed [blk b7 [.slice B0 k0 c0, .slice B1 k1 c1] 104] 11 rfl (fun w h => h.subl (by first | ((repeat (first | exact SubL.nil | apply SubL.keep | apply SubL.skip)); done) | fail)) ?_)
      ((refine a_q 0 rfl rfl rfl rfl rfl (by decide +kernel) (q_move rfl) ?_; refine a_q 1 rfl rfl rfl rfl rfl (by decide +kernel) (q_move rfl) ?_; refine a_q 2 rfl rfl rfl rfl rfl (by decide +kernel) (by (exact q_indexAddrA1 tab rfl rfl rfl rfl (by omega))) ?_; ((refine a_q 3 rfl rfl rfl rfl rfl (by decide +kernel) (by ((exact q_ld1 tab rfl rfl rfl (by first | ((repeat (first | exact List.Mem.head _ | apply List.Mem.tail)); done) | fail) (by (rfl))))) ?_)); refine a_q 4 rfl rfl rfl rfl rfl (by decide +kernel) (q_move rfl) ?_; refine a_q 5 rfl rfl rfl rfl rfl (by decide +kernel) (by (exact q_indexAddrA1 tab rfl rfl rfl rfl (by omega))) ?_; ((refine a_q 6 rfl rfl rfl rfl rfl (by decide +kernel) (by ((exact q_ld1 tab rfl rfl rfl (by first | ((repeat (first | exact List.Mem.head _ | apply List.Mem.tail)); done) | fail) (by (rfl))))) ?_)); refine a_q 7 rfl rfl rfl rfl rfl (by decide +kernel) (by (exact q_len tab rfl rfl)) ?_; refine a_q 8 rfl rfl rfl rfl rfl (by decide +kernel) (by (exact q_minN rfl rfl)) ?_; refine a_q 9 rfl rfl rfl rfl rfl (by decide +kernel) (by (exact q_slHi tab rfl rfl rfl rfl (by first | (with_reducible exact Int.toNat_natCast _) | (with_reducible exact Int.toNat_zero) | (with_reducible exact Int.toNat_one) | rfl) (by (omega)))) ?_))
      (refine a_e 10 rfl (by decide +kernel) rfl (fun K hK => e_call1 (X := memA p m1) (by first | ((repeat (first | exact Ext.head | apply Ext.tail)); done) | fail) rfl rfl Try.func24 rfl (by decide) (fun w' h => write_spec h.split hk1' 1 1 0 B1 (min k1 4) c1 _ (h.roOf hr1 (fun X hX => by simp at hX; simp [hX])) (by omega) (by omega) (by omega) (by omega) (by omega)) (fun v B hv => ?_)); obtain ⟨m2, rfl, hm2, rfl⟩ := hv; refine hK _ _ (fun w h => h.subl (by first | ((repeat (first | exact SubL.nil | apply SubL.keep | apply SubL.skip)); done) | fail)) ?_; clear hK)
      refine a_done (by decide +kernel) ?_
      (repeat (first | (refine i_dst ?_; (first | (refine i_move ?_; refine l_q rfl rfl rfl (q_move rfl) ?_) | (refine i_bin ?_; refine l_q rfl rfl rfl (by (exact q_add rfl rfl (by (exact wr_i64 (by omega))))) ?_))) | refine c_region ?_ | refine l_nil ?_ | (refine i_q ?_; (first | refine d_then ?_ | refine t_then ?_ | refine t_block ?_))))
      exact k_again (2, m2) ⟨by dsimp only; omega, by dsimp only; rw [hm2]; exact writeM_ok hk1' (by omega)⟩ (by dsimp only; omega) (by first | ((repeat (first | exact trivial | exact rfl | apply Sub.cons | exact look_int rfl (by omega) | exact look_int rfl (by simp) | exact look_int rfl (by simp; omega))); done) | fail) (fun w h => h.psub (by first | ((repeat (first | exact PSub.nil | exact Ext.head | apply Ext.tail | apply PSub.cons)); done) | fail))
  · obtain rfl : i = 2 := by omega
    have ea : ((at_ : Int) % 9) = ((at_ % 9 : Nat) : Int) := by omega
    have es : ((size : Int) % 8) = ((size % 8 : Nat) : Int) := by omega
    obtain ⟨e, he⟩ : ∃ e : EntryI, e = ⟨size % 8, 1, at_ % 9⟩ := ⟨_, rfl⟩
    have he1 : e.size = size % 8 := by rw [he]
    have he2 : e.at_ = at_ % 9 := by rw [he]
    have he3 : e.area = 1 := by rw [he]
    (repeat (first | (refine i_dst ?_; (first | (refine i_move ?_; refine l_q rfl rfl rfl (q_move rfl) ?_) | (refine i_bin ?_; refine l_q rfl rfl rfl (by (first | exact q_lss rfl rfl | exact q_rem rfl rfl (by omega) (Int.tmod_eq_emod_of_nonneg (by omega)))) ?_) | (refine l_q rfl rfl rfl (by ((apply iq_cv; (exact q_conv tab rfl rfl rfl (by (exact wr_i64 (by omega))))))) ?_))) | refine d_seq ?_ | refine c_region ?_ | refine l_nil ?_ | (refine i_q ?_; (first | refine d_then ?_ | refine d_then_exit ?_ | refine t_then_exit ?_ | refine t_block_eq rfl ?_)) | refine c_exit ?_ | (refine i_cond ?_; (refine c_cf rfl (by (rfl)) ?_))))
    (refine l_call1 (X := memA p m) (by first | ((repeat (first | exact Ext.head | apply Ext.tail)); done) | fail) rfl rfl Try.func23 rfl (by decide) (fun w' h => set_spec h.split hk 1 0 ((app : Int) % 3) (by omega)) (fun v B hv => ?_); obtain ⟨m1, rfl, hm1, rfl⟩ := hv)
    have hk1' : MmOk m1.abs := by rw [hm1]; exact setM_ok hk
    (repeat (first | (refine i_dst ?_; (first | (refine i_move ?_; refine l_q rfl rfl rfl (q_move rfl) ?_) | (refine i_bin ?_; refine l_q rfl rfl rfl (by (exact q_rem rfl rfl (by omega) (Int.tmod_eq_emod_of_nonneg (by omega)))) ?_) | (refine l_q rfl rfl rfl (by ((apply iq_cv; (exact q_conv tab rfl rfl rfl (by (first | exact wr_i64 (by omega) | exact wr_u32 (by omega))))))) ?_))) | refine d_seq ?_ | refine c_region ?_ | refine l_nil ?_ | (refine i_q ?_; (refine d_then ?_))))
    rw [ea, es]
    (refine l_call0 rfl rfl Try.func19 rfl (by decide) (fun w' h => read_spec (m := m1) (Ro.empty (h.mem (by first | ((repeat (first | exact List.Mem.head _ | apply List.Mem.tail)); done) | fail))) hk1' 1 1 (at_ % 9 : Nat) (size % 8 : Nat) (by omega) (by omega) (by omega) (by omega) (by omega)) (fun v B hv => ?_); obtain ⟨A2, c2, rfl, rfl⟩ := hv)
    have hent : entM m1.abs ⟨size % 8, 1, at_ % 9⟩ = if (readM m1.abs 1 1 (at_ % 9 : Nat) (size % 8 : Nat)).2 = 0 then (readM m1.abs 1 1 (at_ % 9 : Nat) (size % 8 : Nat)).1 else List.replicate (size % 8) 0 := rfl
    generalize (readM m1.abs 1 1 (at_ % 9 : Nat) (size % 8 : Nat)).2 = q at hent ⊢
    generalize (readM m1.abs 1 1 (at_ % 9 : Nat) (size % 8 : Nat)).1 = rb at hent ⊢
    by_cases hq0 : q = 0
    · rw [if_pos hq0] at hent
      (repeat (first | (refine i_dst ?_; (first | (refine i_move ?_; refine l_q rfl rfl rfl (q_move rfl) ?_) | (refine i_assign ?_; refine l_q rfl rfl rfl (q_assign rfl) ?_) | (refine i_bin ?_; refine l_q rfl rfl rfl (by (first | exact q_neq rfl rfl | exact q_rem rfl rfl (by omega) (Int.tmod_eq_emod_of_nonneg (by omega)))) ?_) | (refine l_q rfl rfl rfl (by (first | exact q_extract rfl rfl | (apply iq_cv; (exact q_conv tab rfl rfl rfl (by (exact wr_i64 (by omega))))))) ?_))) | refine d_seq ?_ | refine c_region ?_ | refine l_nil ?_ | (refine i_q ?_; (refine d_then ?_)) | refine c_skip ?_ | (refine i_cond ?_; (refine c_cf rfl (by (exact decide_eq_false (by omega))) ?_))))
      (refine l_call1 (X := memA p m1) (by first | ((repeat (first | exact Ext.head | apply Ext.tail)); done) | fail) rfl rfl Try.func23 rfl (by decide) (fun w' h => set_spec h.split hk1' 2 0 ((xcp : Int) % 3) (by omega)) (fun v B hv => ?_); obtain ⟨m3, rfl, hm3, rfl⟩ := hv)
      have hk3 : MmOk m3.abs := by rw [hm3]; exact setM_ok hk1'
      (repeat (first | (refine i_dst ?_; (first | (refine i_move ?_; refine l_q rfl rfl rfl (q_move rfl) ?_) | (refine i_bin ?_; refine l_q rfl rfl rfl (by (exact q_rem rfl rfl (by omega) (Int.tmod_eq_emod_of_nonneg (by omega)))) ?_) | (refine i_bldS ?_; refine l_bldS tab rfl rfl rfl rfl (by first | exact CellsOf.agg | exact CellsOf.one rfl) (by first | ((repeat (first | exact RepR.zero | exact AppR.nil | apply RepR.succ | apply AppR.cons)); done) | fail) (by first | ((repeat (first | exact FillR.nil | exact LSets.nil | exact LSet.zero | exact CellsOf.agg | exact rfl | exact CellsOf.one rfl | apply FillR.cons | apply LSets.cons | apply LSet.succ)); done) | fail) (fun w => by kernel_rfl) (fun _ => ?_)) | (refine l_q rfl rfl rfl (by (first | (apply iq_cv; (exact q_conv tab rfl rfl rfl (by (exact wr_u32 (by omega))))) | (apply iq_bld; ((exact q_bld tab rfl rfl rfl (by first | ((repeat (first | exact FillR.nil | exact LSets.nil | exact LSet.zero | exact CellsOf.agg | exact rfl | exact CellsOf.one rfl | apply FillR.cons | apply LSets.cons | apply LSet.succ)); done) | fail) (fun w => by kernel_rfl)))))) ?_))) | refine d_seq ?_ | refine c_region ?_ | refine l_nil ?_ | (refine i_q ?_; (refine d_then ?_))))
      rw [ea, es]
      rename_i g84 g85
      (refine l_call0 rfl rfl Try.func43 rfl (by decide) (fun w' h => sample_spec (m := m3) (Ro.empty (h.mem (by first | ((repeat (first | exact List.Mem.head _ | apply List.Mem.tail)); done) | fail))) hk3 _ (pgL ⟨size % 8, 1, at_ % 9⟩) (pg_in (Ro.empty (h.mem (X := blk g84 _ _) (by first | ((repeat (first | exact List.Mem.head _ | apply List.Mem.tail)); done) | fail))) ⟨by dsimp only; omega, by dsimp only; omega, by dsimp only; omega⟩ (Ro.empty (h.mem (X := blk g85 _ _) (by first | ((repeat (first | exact List.Mem.head _ | apply List.Mem.tail)); done) | fail)))) ⟨by simp [pgL], by simp [pgL]⟩) (fun v B hv => ?_); obtain ⟨A5, c5, xs, rfl, rfl, hxs⟩ := hv)
      have hsm : sampleM m3.abs (pgL ⟨size % 8, 1, at_ % 9⟩) = [(codeM 0 0, entM m1.abs ⟨size % 8, 1, at_ % 9⟩)] := by
        rw [← ent_set2 (M := m1.abs) (seg := 0) (page := (xcp : Int) % 3), ← hm3]
        simp [sampleM, pgL, tabM']
      rw [hsm, hent] at hxs
      rcases xs with _ | ⟨⟨xc, xv, xb⟩, _ | ⟨x2, xs⟩⟩
      · simp at hxs
      · simp at hxs
        obtain ⟨-, rfl⟩ := hxs
        refine l_hp (hp' := [bytesA xv xb, row 46 3 (.slice A5 1 c5) 1 ([(⟨xc, xv, xb⟩ : RepV)].flatMap repCells), bytesA (.slice A2 xb.length c2) xb]) (fun w h => ?_) ?_
        · have h1 := st_unstar (h.ext (X := starL [repB ⟨xc, xv, xb⟩]) (by first | ((repeat (first | exact Ext.head | apply Ext.tail)); done) | fail))
          unfold repB at h1
          exact h1.psub (by first | ((repeat (first | exact PSub.nil | exact Ext.head | apply Ext.tail | apply PSub.cons)); done) | fail)
        refine l_fact (p := ∃ Ax cx, xv = .slice Ax xb.length cx) (fun w h => ?_) ?_
        · obtain ⟨Ax, cx, e1, -⟩ := bytesA_ro (h.get (i := 0) rfl)
          exact ⟨Ax, cx, e1⟩
        rintro ⟨Ax, cx, rfl⟩
        have hx0 : [(⟨xc, .slice Ax xb.length cx, xb⟩ : RepV)][0]? = some ⟨xc, .slice Ax xb.length cx, xb⟩ := rfl
        have hst : ((strOfNums xb).toList == (strOfNums xb).toList) = true := by simp
        dsimp only [List.length_cons, List.length_nil]
        (repeat (first | (refine i_dst ?_; ((refine i_assign ?_; refine l_q rfl rfl rfl (q_assign rfl) ?_))) | refine d_seq ?_ | refine l_nil ?_ | (refine i_q ?_; (refine d_then ?_))))
        (refine a_begin mixed _ 17 rfl (fun w h => h) ?_)
        ((refine a_q 0 rfl rfl rfl rfl rfl (by decide +kernel) (q_move rfl) ?_; refine a_q 1 rfl rfl rfl rfl rfl (by decide +kernel) (q_move rfl) ?_; (refine a_gt 2 rfl rfl rfl rfl rfl rfl rfl (by decide +kernel) (q_move rfl) ?_); (refine a_gt 3 rfl rfl rfl rfl rfl rfl rfl (by decide +kernel) (by (exact q_len tab rfl rfl)) ?_); (refine a_gt 4 rfl rfl rfl rfl rfl rfl rfl (by decide +kernel) (by (exact q_eql rfl rfl)) ?_); refine a_q 5 rfl rfl rfl rfl rfl (by decide +kernel) (by (exact q_pick_t rfl rfl)) ?_; refine a_q 6 rfl rfl rfl rfl rfl (by decide +kernel) (q_move rfl) ?_; (refine a_gt 7 rfl rfl rfl rfl rfl rfl rfl (by decide +kernel) (q_move rfl) ?_); ((refine a_gt 8 rfl rfl rfl rfl rfl rfl rfl (by decide +kernel) (by ((exact q_ixSN tab rfl rfl rfl rfl (by ((exact fun w h => row_src (h.mem (by first | ((repeat (first | exact List.Mem.head _ | apply List.Mem.tail)); done) | fail))))) (by first | (with_reducible exact Int.toNat_natCast _) | (with_reducible exact Int.toNat_zero) | (with_reducible exact Int.toNat_one) | rfl) (by (omega)) (by (omega))))) ?_)); ((refine a_gt 9 rfl rfl rfl rfl rfl rfl rfl (by decide +kernel) (by ((apply iq_fld; ((exact q_fldS tab rfl rfl rfl rfl rfl rfl rfl (by ((exact fun w h => row_src (h.mem (by first | ((repeat (first | exact List.Mem.head _ | apply List.Mem.tail)); done) | fail))))) (by (omega))))))) ?_)); ((refine a_gt 10 rfl rfl rfl rfl rfl rfl rfl (by decide +kernel) (by ((exact q_ldF tab rfl rfl rfl (by ((exact fun w h => row_src (h.mem (by first | ((repeat (first | exact List.Mem.head _ | apply List.Mem.tail)); done) | fail))))) (by exact fun _ => rfl) (by assumption) (by exact rfl)))) ?_)); ((refine a_gt 11 rfl rfl rfl rfl rfl rfl rfl (by decide +kernel) (by ((apply iq_cv; ((exact q_str tab rfl rfl rfl rfl (fun w h => roB_of (h.mem (by first | ((repeat (first | exact List.Mem.head _ | apply List.Mem.tail)); done) | fail)))))))) ?_)); (refine a_gt 12 rfl rfl rfl rfl rfl rfl rfl (by decide +kernel) (q_move rfl) ?_); ((refine a_gt 13 rfl rfl rfl rfl rfl rfl rfl (by decide +kernel) (by ((apply iq_cv; ((exact q_str tab rfl rfl rfl rfl (fun w h => roB_of (h.mem (by first | ((repeat (first | exact List.Mem.head _ | apply List.Mem.tail)); done) | fail)))))))) ?_)); (refine a_gt 14 rfl rfl rfl rfl rfl rfl rfl (by decide +kernel) (by (exact q_eqs rfl rfl)) ?_); refine a_q 15 rfl rfl rfl rfl rfl (by decide +kernel) (by (exact q_pick_t rfl rfl)) ?_; refine a_q 16 rfl rfl rfl rfl rfl (by decide +kernel) (q_assign rfl) ?_))
        refine a_done (by decide +kernel) ?_
        rw [hst]
        (repeat (first | (refine i_q ?_; (refine d_then ?_)) | refine c_ret ?_))
        exact t_ret1 Try.results13 rfl rfl
      · simp at hxs
    · rw [if_neg hq0] at hent
      (repeat (first | (refine i_dst ?_; (first | (refine i_move ?_; refine l_q rfl rfl rfl (q_move rfl) ?_) | (refine i_assign ?_; refine l_q rfl rfl rfl (q_assign rfl) ?_) | (refine i_bin ?_; refine l_q rfl rfl rfl (by (first | exact q_neq rfl rfl | exact q_rem rfl rfl (by omega) (Int.tmod_eq_emod_of_nonneg (by omega)))) ?_) | (refine i_mk ?_; refine l_make rfl rfl rfl (fun w => run_makeN tab rfl rfl rfl (by ((simp; omega))) (by ((simp; omega))) w) (fun _ => ?_)) | (refine l_q rfl rfl rfl (by (first | exact q_extract rfl rfl | (apply iq_cv; (exact q_conv tab rfl rfl rfl (by (exact wr_i64 (by omega))))))) ?_))) | refine d_seq ?_ | refine c_region ?_ | refine l_nil ?_ | (refine i_q ?_; (refine d_then ?_)) | (refine i_cond ?_; (refine c_ct rfl (by (exact decide_eq_true (by omega))) ?_))))
      rename_i gz
      rw [show Int.natAbs 8 = 8 from rfl]
      refine l_hp (hp' := [bytesA (.slice (some ⟨gz, 0, none⟩) (size % 8) (size % 8)) (List.replicate (size % 8) 0), memA p m1]) (fun w h => (h.see (i := 0) (Y := bytesA (.slice (some ⟨gz, 0, none⟩) (size % 8) (size % 8)) (List.replicate (size % 8) 0)) rfl (fun h => zerosA h (by omega)) (fun b hb => blk_S (bytesA_S hb))).psub (by first | ((repeat (first | exact PSub.nil | exact Ext.head | apply Ext.tail | apply PSub.cons)); done) | fail)) ?_
      (repeat fail)
      (refine l_call1 (X := memA p m1) (by first | ((repeat (first | exact Ext.head | apply Ext.tail)); done) | fail) rfl rfl Try.func23 rfl (by decide) (fun w' h => set_spec h.split hk1' 2 0 ((xcp : Int) % 3) (by omega)) (fun v B hv => ?_); obtain ⟨m3, rfl, hm3, rfl⟩ := hv)
      have hk3 : MmOk m3.abs := by rw [hm3]; exact setM_ok hk1'
      (repeat (first | (refine i_dst ?_; (first | (refine i_move ?_; refine l_q rfl rfl rfl (q_move rfl) ?_) | (refine i_bin ?_; refine l_q rfl rfl rfl (by (exact q_rem rfl rfl (by omega) (Int.tmod_eq_emod_of_nonneg (by omega)))) ?_) | (refine i_bldS ?_; refine l_bldS tab rfl rfl rfl rfl (by first | exact CellsOf.agg | exact CellsOf.one rfl) (by first | ((repeat (first | exact RepR.zero | exact AppR.nil | apply RepR.succ | apply AppR.cons)); done) | fail) (by first | ((repeat (first | exact FillR.nil | exact LSets.nil | exact LSet.zero | exact CellsOf.agg | exact rfl | exact CellsOf.one rfl | apply FillR.cons | apply LSets.cons | apply LSet.succ)); done) | fail) (fun w => by kernel_rfl) (fun _ => ?_)) | (refine l_q rfl rfl rfl (by (first | (apply iq_cv; (exact q_conv tab rfl rfl rfl (by (exact wr_u32 (by omega))))) | (apply iq_bld; ((exact q_bld tab rfl rfl rfl (by first | ((repeat (first | exact FillR.nil | exact LSets.nil | exact LSet.zero | exact CellsOf.agg | exact rfl | exact CellsOf.one rfl | apply FillR.cons | apply LSets.cons | apply LSet.succ)); done) | fail) (fun w => by kernel_rfl)))))) ?_))) | refine d_seq ?_ | refine c_region ?_ | refine l_nil ?_ | (refine i_q ?_; (refine d_then ?_))))
      rw [ea, es]
      rename_i g84 g85
      (refine l_call0 rfl rfl Try.func43 rfl (by decide) (fun w' h => sample_spec (m := m3) (Ro.empty (h.mem (by first | ((repeat (first | exact List.Mem.head _ | apply List.Mem.tail)); done) | fail))) hk3 _ (pgL ⟨size % 8, 1, at_ % 9⟩) (pg_in (Ro.empty (h.mem (X := blk g84 _ _) (by first | ((repeat (first | exact List.Mem.head _ | apply List.Mem.tail)); done) | fail))) ⟨by dsimp only; omega, by dsimp only; omega, by dsimp only; omega⟩ (Ro.empty (h.mem (X := blk g85 _ _) (by first | ((repeat (first | exact List.Mem.head _ | apply List.Mem.tail)); done) | fail)))) ⟨by simp [pgL], by simp [pgL]⟩) (fun v B hv => ?_); obtain ⟨A5, c5, xs, rfl, rfl, hxs⟩ := hv)
      have hsm : sampleM m3.abs (pgL ⟨size % 8, 1, at_ % 9⟩) = [(codeM 0 0, entM m1.abs ⟨size % 8, 1, at_ % 9⟩)] := by
        rw [← ent_set2 (M := m1.abs) (seg := 0) (page := (xcp : Int) % 3), ← hm3]
        simp [sampleM, pgL, tabM']
      rw [hsm, hent] at hxs
      rcases xs with _ | ⟨⟨xc, xv, xb⟩, _ | ⟨x2, xs⟩⟩
      · simp at hxs
      · simp at hxs
        obtain ⟨-, hxb⟩ := hxs
        have hl : xb.length = size % 8 := by rw [hxb]; simp
        refine l_hp (hp' := [bytesA xv xb, row 46 3 (.slice A5 1 c5) 1 ([(⟨xc, xv, xb⟩ : RepV)].flatMap repCells), bytesA (.slice (some ⟨gz, 0, none⟩) (size % 8) (size % 8)) xb]) (fun w h => ?_) ?_
        · have h1 := st_unstar (h.ext (X := starL [repB ⟨xc, xv, xb⟩]) (by first | ((repeat (first | exact Ext.head | apply Ext.tail)); done) | fail))
          unfold repB at h1
          rw [← hxb] at h1
          exact h1.psub (by first | ((repeat (first | exact PSub.nil | exact Ext.head | apply Ext.tail | apply PSub.cons)); done) | fail)
        refine l_fact (p := ∃ Ax cx, xv = .slice Ax xb.length cx) (fun w h => ?_) ?_
        · obtain ⟨Ax, cx, e1, -⟩ := bytesA_ro (h.get (i := 0) rfl)
          exact ⟨Ax, cx, e1⟩
        rintro ⟨Ax, cx, rfl⟩
        have hx0 : [(⟨xc, .slice Ax xb.length cx, xb⟩ : RepV)][0]? = some ⟨xc, .slice Ax xb.length cx, xb⟩ := rfl
        have hst : ((strOfNums xb).toList == (strOfNums xb).toList) = true := by simp
        dsimp only [List.length_cons, List.length_nil]
        (repeat (first | (refine i_dst ?_; ((refine i_assign ?_; refine l_q rfl rfl rfl (q_assign rfl) ?_))) | refine d_seq ?_ | refine l_nil ?_ | (refine i_q ?_; (refine d_then ?_))))
        (refine a_begin mixed _ 17 rfl (fun w h => h) ?_)
        ((refine a_q 0 rfl rfl rfl rfl rfl (by decide +kernel) (q_move rfl) ?_; refine a_q 1 rfl rfl rfl rfl rfl (by decide +kernel) (q_move rfl) ?_; (refine a_gt 2 rfl rfl rfl rfl rfl rfl rfl (by decide +kernel) (q_move rfl) ?_); (refine a_gt 3 rfl rfl rfl rfl rfl rfl rfl (by decide +kernel) (by (exact q_len tab rfl rfl)) ?_); (refine a_gt 4 rfl rfl rfl rfl rfl rfl rfl (by decide +kernel) (by (exact q_eql rfl rfl)) ?_); refine a_q 5 rfl rfl rfl rfl rfl (by decide +kernel) (by (exact q_pick_t rfl rfl)) ?_; refine a_q 6 rfl rfl rfl rfl rfl (by decide +kernel) (q_move rfl) ?_; (refine a_gt 7 rfl rfl rfl rfl rfl rfl rfl (by decide +kernel) (q_move rfl) ?_); ((refine a_gt 8 rfl rfl rfl rfl rfl rfl rfl (by decide +kernel) (by ((exact q_ixSN tab rfl rfl rfl rfl (by ((exact fun w h => row_src (h.mem (by first | ((repeat (first | exact List.Mem.head _ | apply List.Mem.tail)); done) | fail))))) (by first | (with_reducible exact Int.toNat_natCast _) | (with_reducible exact Int.toNat_zero) | (with_reducible exact Int.toNat_one) | rfl) (by (omega)) (by (omega))))) ?_)); ((refine a_gt 9 rfl rfl rfl rfl rfl rfl rfl (by decide +kernel) (by ((apply iq_fld; ((exact q_fldS tab rfl rfl rfl rfl rfl rfl rfl (by ((exact fun w h => row_src (h.mem (by first | ((repeat (first | exact List.Mem.head _ | apply List.Mem.tail)); done) | fail))))) (by (omega))))))) ?_)); ((refine a_gt 10 rfl rfl rfl rfl rfl rfl rfl (by decide +kernel) (by ((exact q_ldF tab rfl rfl rfl (by ((exact fun w h => row_src (h.mem (by first | ((repeat (first | exact List.Mem.head _ | apply List.Mem.tail)); done) | fail))))) (by exact fun _ => rfl) (by assumption) (by exact rfl)))) ?_)); ((refine a_gt 11 rfl rfl rfl rfl rfl rfl rfl (by decide +kernel) (by ((apply iq_cv; ((exact q_str tab rfl rfl rfl rfl (fun w h => roB_of (h.mem (by first | ((repeat (first | exact List.Mem.head _ | apply List.Mem.tail)); done) | fail)))))))) ?_)); (refine a_gt 12 rfl rfl rfl rfl rfl rfl rfl (by decide +kernel) (q_move rfl) ?_); ((refine a_gt 13 rfl rfl rfl rfl rfl rfl rfl (by decide +kernel) (by ((apply iq_cv; ((exact q_str tab rfl rfl rfl rfl (fun w h => roB_of (h.mem (by first | ((repeat (first | exact List.Mem.head _ | apply List.Mem.tail)); done) | fail)))))))) ?_)); (refine a_gt 14 rfl rfl rfl rfl rfl rfl rfl (by decide +kernel) (by (exact q_eqs rfl rfl)) ?_); refine a_q 15 rfl rfl rfl rfl rfl (by decide +kernel) (by (exact q_pick_t rfl rfl)) ?_; refine a_q 16 rfl rfl rfl rfl rfl (by decide +kernel) (q_assign rfl) ?_))
        refine a_done (by decide +kernel) ?_
        rw [hst]
        (repeat (first | (refine i_q ?_; (refine d_then ?_)) | refine c_ret ?_))
        exact t_ret1 Try.results13 rfl rfl
      · simp at hxs
end Go.Proofs.Ytkeekkdaielipaa

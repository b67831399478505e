/-
  Layer 12: FireOwn, walked.
-/
import Derived.Test.YtkeekkdaielipaaV1
set_option linter.unusedVariables false
set_option maxRecDepth 100000
namespace Go.Proofs.Ytkeekkdaielipaa
open Go.RowKit
attribute [local irreducible] TL TC TQ TK TO Qt TA

def foL (o0 p0 o1 p1 : Nat) : List ListI := [bareL o0 p0 0 true, bareL o1 p1 0 true]
def foL1 (o0 p0 : Nat) : List ListI := [bareL o0 p0 0 true, bareL 0 0 0 false]
def foL2 (o1 p1 : Nat) : List ListI := [bareL 0 0 0 false, bareL o1 p1 0 true]
theorem fo_event {o0 p0 o1 p1 e : Nat} {f g h : Nat → Nat} (h0 : f 0 = g 0) (h1 : f 1 = h 1) : eventM (foL o0 p0 o1 p1) e f = eventM (foL1 o0 p0) e g ++ eventM (foL2 o1 p1) e h := by
  by_cases a : o0 = e <;> by_cases b : p0 ≤ g 0 + 1 <;> by_cases c : o1 = e <;> by_cases d : p1 ≤ h 1 + 1 <;>
    simp [eventM, doneM, List.range_succ, fireStep, foL, foL1, foL2, bareL, a, b, c, d, h0, h1, sortM, insR, priM]
theorem fo_count0 {o0 p0 o1 p1 e : Nat} {f g : Nat → Nat} (h0 : f 0 = g 0) : countM (foL o0 p0 o1 p1) e f 0 = countM (foL1 o0 p0) e g 0 := by
  show (fireStep e (some (bareL o0 p0 0 true)) (f 0)).1 = (fireStep e (some (bareL o0 p0 0 true)) (g 0)).1
  rw [h0]
theorem fo_count1 {o0 p0 o1 p1 e : Nat} {f h : Nat → Nat} (h1 : f 1 = h 1) : countM (foL o0 p0 o1 p1) e f 1 = countM (foL2 o1 p1) e h 1 := by
  show (fireStep e (some (bareL o1 p1 0 true)) (f 1)).1 = (fireStep e (some (bareL o1 p1 0 true)) (h 1)).1
  rw [h1]
theorem countM_le (ls : List ListI) (e : Nat) (f : Nat → Nat) (k : Nat) : countM ls e f k ≤ f k + 1 := by
  unfold countM fireStep
  split
  · simp
  · split
    · split
      · split <;> simp
      · simp
    · simp
theorem eventM_len (ls : List ListI) (e : Nat) (f : Nat → Nat) : (eventM ls e f).length ≤ 4 := by
  rw [eventM, length_sortM]
  exact doneM_len _ _ _ _
theorem row0I {S : Nat → Prop} {w0 w : World} {g : Nat} {F : List Asn} (h : St S w0 (blk g [] 3 :: F) w) : St S w0 (row 3 1 (.slice (some ⟨g, 0, none⟩) 0 0) 0 [] :: F) w :=
  h.see (i := 0) rfl (fun h => row_of_blk h 1 0 0 (Nat.le_refl _) (Nat.zero_le _) rfl [] rfl) (fun b hb => by injection hb with hb; exact hb.symm)
attribute [local irreducible] blk row bytesA starL memA segA roB

attribute [local irreducible] fireA

set_option maxHeartbeats 8000000 in
theorem fireOwn_walk (W : World) (p0 p1 w0 w1 : Nat) (hp0 : p0 ≤ 255) (hp1 : p1 ≤ 255) (hw0 : w0 ≤ 255) (hw1 : w1 ≤ 255) (O : Option Addr) (n c : Nat) (os : List Int) (ho : (roB O n os).C W) (hnc : n ≤ c) (hcm : c ≤ maxLen) :
    Calls Try.prog 6 #[.agg #[.int .u8 p0, .int .u8 p1], .agg #[.int .u8 w0, .int .u8 w1], .slice O n c] W (Ret W [] fun v _ => v = .bool true) := by
  refine enter (vs := [.agg #[.int .u8 p0, .int .u8 p1], .agg #[.int .u8 w0, .int .u8 w1], .slice O n c]) Try.func6 rfl Try.ntmps6 rfl (Hold.nil W) ?_
  have hmx : maxLen = 2 ^ 63 - 1 := rfl
  have hol : os.length = n := roB_len ho
  have hoo : Oct os := roB_oct ho
  have hor : Ro (fps []) W (roB O n os) := Ro.empty ho
  clear ho
  (repeat (first | (refine i_dst ?_; (first | (refine i_assign ?_; refine l_q rfl rfl rfl (q_assign rfl) ?_) | (refine i_box ?_; (refine l_boxA rfl rfl (fun _ => ?_))))) | refine d_seq ?_ | refine c_region ?_ | refine l_nil ?_ | (refine i_q ?_; (refine d_then ?_))))
  (refine l_call0 rfl rfl Try.func26 rfl (by decide) (fun w' h => shown12_spec w') (fun v B hv => ?_); obtain ⟨rfl, rfl⟩ := hv)
  (repeat (first | (refine i_dst ?_; (first | (refine i_assign ?_; refine l_q rfl rfl rfl (q_assign rfl) ?_) | (refine i_load ?_; refine l_q rfl rfl rfl (by ((exact q_ld1 tab rfl rfl rfl (by first | ((repeat (first | exact List.Mem.head _ | apply List.Mem.tail)); done) | fail) (by (rfl))))) ?_) | (refine i_bin ?_; refine l_q rfl rfl rfl (by (exact q_rem rfl rfl (by omega) (Int.tmod_eq_emod_of_nonneg (by omega)))) ?_) | (refine i_ix ?_; refine l_q rfl rfl rfl (by (exact q_indexAddrA1 tab rfl rfl rfl rfl (by omega))) ?_) | (refine i_bldS ?_; refine l_bldS tab rfl rfl rfl rfl (by first | exact CellsOf.agg | exact CellsOf.one rfl) (by first | ((repeat (first | exact RepR.zero | exact AppR.nil | apply RepR.succ | apply AppR.cons)); done) | fail) (by first | ((repeat (first | exact FillR.nil | exact LSets.nil | exact LSet.zero | exact CellsOf.agg | exact rfl | exact CellsOf.one rfl | apply FillR.cons | apply LSets.cons | apply LSet.succ)); done) | fail) (fun w => by kernel_rfl) (fun _ => ?_)) | (refine l_q rfl rfl rfl (by ((apply iq_bld; ((exact q_bld tab rfl rfl rfl (by first | ((repeat (first | exact FillR.nil | exact LSets.nil | exact LSet.zero | exact CellsOf.agg | exact rfl | exact CellsOf.one rfl | apply FillR.cons | apply LSets.cons | apply LSet.succ)); done) | fail) (fun w => by kernel_rfl)))))) ?_))) | refine d_seq ?_ | refine c_region ?_ | refine l_nil ?_ | (refine i_q ?_; (refine d_then ?_))))
  rename_i bl
  have eo0 : ((w0 : Int) % 3) = ((w0 % 3 : Nat) : Int) := by omega
  have eo1 : ((w1 : Int) % 3) = ((w1 % 3 : Nat) : Int) := by omega
  rw [eo0, eo1]
  obtain ⟨o0, ho0⟩ : ∃ o0, o0 = w0 % 3 := ⟨_, rfl⟩
  obtain ⟨o1, ho1⟩ : ∃ o1, o1 = w1 % 3 := ⟨_, rfl⟩
  rw [← ho0, ← ho1]
  (refine l_call0 rfl rfl Try.func27 rfl (by decide) (fun w' h => fnew_spec w') (fun v B hv => ?_); obtain ⟨q, rfl, rfl⟩ := hv)
  (repeat fail)
  (refine l_call0 rfl rfl Try.func27 rfl (by decide) (fun w' h => fnew_spec w') (fun v B hv => ?_); obtain ⟨q1, rfl, rfl⟩ := hv)
  (repeat fail)
  (refine l_call0 rfl rfl Try.func27 rfl (by decide) (fun w' h => fnew_spec w') (fun v B hv => ?_); obtain ⟨q2, rfl, rfl⟩ := hv)
  (repeat (first | (refine i_dst ?_; ((refine i_assign ?_; refine l_q rfl rfl rfl (q_assign rfl) ?_))) | refine d_seq ?_ | refine l_nil ?_ | (refine i_q ?_; (refine d_then ?_))))
  (refine a_begin mixed [blk bl (bareC o0 p0 0 true ++ bareC o1 p1 0 true) 42] 12 rfl (fun w h => h.subl (by first | ((repeat (first | exact SubL.nil | apply SubL.keep | apply SubL.skip)); done) | fail)) ?_)
  ((refine a_q 0 rfl rfl rfl rfl rfl (by decide +kernel) (q_move rfl) ?_; refine a_q 1 rfl rfl rfl rfl rfl (by decide +kernel) (by (exact q_indexAddr tab rfl rfl rfl rfl (by omega))) ?_; ((refine a_q 2 rfl rfl rfl rfl rfl (by decide +kernel) (by ((exact q_ldN tab rfl rfl rfl rfl (by first | ((repeat (first | exact List.Mem.head _ | apply List.Mem.tail)); done) | fail) (by first | ((repeat (first | exact TakeR.nil | apply TakeR.cons | apply CutR.zero | apply CutR.skip)); done) | fail)))) ?_)); refine a_q 3 rfl rfl rfl rfl rfl (by decide +kernel) (by ((apply iq_bld; ((exact q_bld tab rfl rfl rfl (by first | ((repeat (first | exact FillR.nil | exact LSets.nil | exact LSet.zero | exact CellsOf.agg | exact rfl | exact CellsOf.one rfl | apply FillR.cons | apply LSets.cons | apply LSet.succ)); done) | fail) (fun w => by kernel_rfl)))))) ?_; refine a_q 5 rfl rfl rfl rfl rfl (by decide +kernel) (by ((apply iq_bld; ((exact q_bld tab rfl rfl rfl (by first | ((repeat (first | exact FillR.nil | exact LSets.nil | exact LSet.zero | exact CellsOf.agg | exact rfl | exact CellsOf.one rfl | apply FillR.cons | apply LSets.cons | apply LSet.succ)); done) | fail) (fun w => by kernel_rfl)))))) ?_; refine a_q 6 rfl rfl rfl rfl rfl (by decide +kernel) (q_move rfl) ?_; refine a_q 7 rfl rfl rfl rfl rfl (by decide +kernel) (by (exact q_indexAddr tab rfl rfl rfl rfl (by omega))) ?_; ((refine a_q 8 rfl rfl rfl rfl rfl (by decide +kernel) (by ((exact q_ldN tab rfl rfl rfl rfl (by first | ((repeat (first | exact List.Mem.head _ | apply List.Mem.tail)); done) | fail) (by first | ((repeat (first | exact TakeR.nil | apply TakeR.cons | apply CutR.zero | apply CutR.skip)); done) | fail)))) ?_))))
  refine a_join (α := Nat × Nat) (fun x => [(2, .slice O n c), (7, .bool true), (8, .slice (some ⟨bl, 0, none⟩) 2 2), (9, .pointer (some ⟨q, 0, none⟩)), (10, .pointer (some ⟨q1, 0, none⟩)), (11, .pointer (some ⟨q2, 0, none⟩)), (12, .slice (some ⟨x.1, 0, none⟩) 2 2), (13, .slice (some ⟨x.2, 0, none⟩) 2 2)]) (fun x => [fireA fT q (fun _ => 0), fireA fT q1 (fun _ => 0), fireA fT q2 (fun _ => 0), blk bl (bareC o0 p0 0 true ++ bareC o1 p1 0 true) 42, blk x.1 (bareC o0 p0 0 true ++ bareC 0 0 0 false) 42, blk x.2 (bareC 0 0 0 false ++ bareC o1 p1 0 true) 42]) ?_ (fun key => ?_)
  rotate_left
  · (refine a_e2 4 9 rfl rfl (by decide +kernel) rfl rfl (fun K hK => e_bldS tab rfl rfl rfl rfl (by first | exact CellsOf.agg | exact CellsOf.one rfl) (by first | ((repeat (first | exact RepR.zero | exact AppR.nil | apply RepR.succ | apply AppR.cons)); done) | fail) (by first | ((repeat (first | exact FillR.nil | exact LSets.nil | exact LSet.zero | exact CellsOf.agg | exact rfl | exact CellsOf.one rfl | apply FillR.cons | apply LSets.cons | apply LSet.succ)); done) | fail) (fun w => by kernel_rfl) (fun g1 => hK _ _ (fun w h => h.subl (by first | ((repeat (first | exact SubL.nil | apply SubL.keep | apply SubL.skip)); done) | fail)) ?_)) (fun K hK => e_bldS tab rfl rfl rfl rfl (by first | exact CellsOf.agg | exact CellsOf.one rfl) (by first | ((repeat (first | exact RepR.zero | exact AppR.nil | apply RepR.succ | apply AppR.cons)); done) | fail) (by first | ((repeat (first | exact FillR.nil | exact LSets.nil | exact LSet.zero | exact CellsOf.agg | exact rfl | exact CellsOf.one rfl | apply FillR.cons | apply LSets.cons | apply LSet.succ)); done) | fail) (fun w => by kernel_rfl) (fun g2 => hK _ _ (fun w h => h.subl (by first | ((repeat (first | exact SubL.nil | apply SubL.keep | apply SubL.skip)); done) | fail)) ?_)))
    · clear hK
      refine a_q 10 rfl rfl rfl rfl rfl (by decide +kernel) (q_assign rfl) ?_
      (refine a_e 9 rfl (by decide +kernel) rfl (fun K hK => e_bldS tab rfl rfl rfl rfl (by first | exact CellsOf.agg | exact CellsOf.one rfl) (by first | ((repeat (first | exact RepR.zero | exact AppR.nil | apply RepR.succ | apply AppR.cons)); done) | fail) (by first | ((repeat (first | exact FillR.nil | exact LSets.nil | exact LSet.zero | exact CellsOf.agg | exact rfl | exact CellsOf.one rfl | apply FillR.cons | apply LSets.cons | apply LSet.succ)); done) | fail) (fun w => by kernel_rfl) (fun g2 => hK _ _ (fun w h => h.subl (by first | ((repeat (first | exact SubL.nil | apply SubL.keep | apply SubL.skip)); done) | fail)) ?_)); clear hK)
      refine a_q 11 rfl rfl rfl rfl rfl (by decide +kernel) (q_assign rfl) ?_
      refine a_done (by decide +kernel) ?_
      exact t_sub (by first | ((repeat (first | exact trivial | exact rfl | apply Sub.cons | exact look_int rfl (by omega) | exact look_int rfl (by simp) | exact look_int rfl (by simp; omega))); done) | fail) (fun w h => h.psub (by first | ((repeat (first | exact PSub.nil | exact Ext.head | apply Ext.tail | apply PSub.cons)); done) | fail)) (key (g1, g2))
    · clear hK
      (refine a_e 4 rfl (by decide +kernel) rfl (fun K hK => e_bldS tab rfl rfl rfl rfl (by first | exact CellsOf.agg | exact CellsOf.one rfl) (by first | ((repeat (first | exact RepR.zero | exact AppR.nil | apply RepR.succ | apply AppR.cons)); done) | fail) (by first | ((repeat (first | exact FillR.nil | exact LSets.nil | exact LSet.zero | exact CellsOf.agg | exact rfl | exact CellsOf.one rfl | apply FillR.cons | apply LSets.cons | apply LSet.succ)); done) | fail) (fun w => by kernel_rfl) (fun g1 => hK _ _ (fun w h => h.subl (by first | ((repeat (first | exact SubL.nil | apply SubL.keep | apply SubL.skip)); done) | fail)) ?_)); clear hK)
      refine a_q 10 rfl rfl rfl rfl rfl (by decide +kernel) (q_assign rfl) ?_
      refine a_q 11 rfl rfl rfl rfl rfl (by decide +kernel) (q_assign rfl) ?_
      refine a_done (by decide +kernel) ?_
      exact t_sub (by first | ((repeat (first | exact trivial | exact rfl | apply Sub.cons | exact look_int rfl (by omega) | exact look_int rfl (by simp) | exact look_int rfl (by simp; omega))); done) | fail) (fun w h => h.psub (by first | ((repeat (first | exact PSub.nil | exact Ext.head | apply Ext.tail | apply PSub.cons)); done) | fail)) (key (g1, g2))
  rintro ⟨b1, b2⟩
  dsimp only
  (repeat (first | (refine i_dst ?_; (first | (refine i_move ?_; refine l_q rfl rfl rfl (q_move rfl) ?_) | (refine i_blt ?_; refine l_q rfl rfl rfl (by (first | exact q_len tab rfl rfl | exact q_minN rfl rfl)) ?_) | (refine i_sl ?_; refine l_q rfl rfl rfl (by (exact q_slHi tab rfl rfl rfl rfl (by first | (with_reducible exact Int.toNat_natCast _) | (with_reducible exact Int.toNat_zero) | (with_reducible exact Int.toNat_one) | rfl) (by (omega)))) ?_))) | refine d_seq ?_ | refine c_region ?_ | refine l_nil ?_ | refine c_block ?_ | (refine i_q ?_; (refine d_then ?_))))
  refine d_loop (T := Nat × (Nat → Nat) × (Nat → Nat) × (Nat → Nat)) [7, 8, 9, 10, 11, 12, 13] (fun t => [(50, .int .i64 t.1), (48, .slice O (min n 60) c), (49, .int .i64 ((min n 60 : Nat) : Int))]) [blk bl (bareC o0 p0 0 true ++ bareC o1 p1 0 true) 42, blk b1 (bareC o0 p0 0 true ++ bareC 0 0 0 false) 42, blk b2 (bareC 0 0 0 false ++ bareC o1 p1 0 true) 42] (fun t => [fireA fT q t.2.1, fireA fT q1 t.2.2.1, fireA fT q2 t.2.2.2]) (fun t => t.1 ≤ min n 60 ∧ t.2.1 0 = t.2.2.1 0 ∧ t.2.1 1 = t.2.2.2 1 ∧ ∀ k, k < 4 → t.2.1 k ≤ t.1 ∧ t.2.2.1 k ≤ t.1 ∧ t.2.2.2 k ≤ t.1) (fun t => min n 60 - t.1) (0, fun _ => 0, fun _ => 0, fun _ => 0) (by first | ((repeat (first | exact Pick.nil | exact rfl | apply Pick.cons)); done) | fail) ⟨Nat.zero_le _, rfl, rfl, fun k _ => ⟨Nat.le_refl _, Nat.le_refl _, Nat.le_refl _⟩⟩ (by first | ((repeat (first | exact trivial | exact rfl | apply Sub.cons | exact look_int rfl (by omega) | exact look_int rfl (by simp) | exact look_int rfl (by simp; omega))); done) | fail) (fun w h => h.psub (by first | ((repeat (first | exact PSub.nil | exact Ext.head | apply Ext.tail | apply PSub.cons)); done) | fail)) ?_
  rintro ⟨j, f, g, h'⟩ ⟨hj, h0, h1, hb⟩
  dsimp only at hj h0 h1 hb ⊢
  by_cases hlt : j < min n 60
  · obtain ⟨e, hoj⟩ : ∃ e, os[j]? = some e := ⟨_, List.getElem?_eq_getElem (by omega)⟩
    have he8 := hoo e (List.mem_of_getElem? hoj)
    obtain ⟨en, rfl⟩ : ∃ en : Nat, e = en := ⟨e.toNat, by omega⟩
    have hov : (bv os)[j]? = some (.int .u8 (en : Int)) := by simp [bv, hoj]
    have hem : ((en : Int) % 3) = ((en % 3 : Nat) : Int) := by omega
    (repeat (first | (refine i_dst ?_; (first | (refine i_move ?_; refine l_q rfl rfl rfl (q_move rfl) ?_) | (refine i_assign ?_; refine l_q rfl rfl rfl (q_assign rfl) ?_) | (refine i_load ?_; refine l_q rfl rfl rfl (by (exact q_ldS tab rfl rfl rfl (by (exact fun w h => roB_src (h.ro (by assumption)))) (by (assumption)))) ?_) | (refine i_bin ?_; refine l_q rfl rfl rfl (by (first | exact q_lss rfl rfl | exact q_rem rfl rfl (by omega) (Int.tmod_eq_emod_of_nonneg (by omega)))) ?_) | (refine i_ix ?_; refine l_q rfl rfl rfl (by (exact q_ixS1 tab rfl rfl rfl rfl (by (exact fun w h => roB_src (h.ro (by assumption)))) (by first | (with_reducible exact Int.toNat_natCast _) | (with_reducible exact Int.toNat_zero) | (with_reducible exact Int.toNat_one) | rfl) (by (omega)) (by (omega)))) ?_))) | refine d_seq ?_ | refine c_region ?_ | refine l_nil ?_ | refine c_block ?_ | (refine i_q ?_; (refine d_then ?_)) | refine c_skip ?_ | (refine i_cond ?_; (refine c_ct rfl (by (exact decide_eq_true (by omega))) ?_))))
    rw [hem]
    (refine l_call1 (X := fireA fT q f) (by first | ((repeat (first | exact Ext.head | apply Ext.tail)); done) | fail) rfl rfl Try.func28 rfl (by decide) (fun w' h => fevent_spec h.split (en % 3) (by omega) _ 2 2 (foL o0 p0 o1 p1) (ins_two rfl rfl (h.roHp (Y := blk bl (bareC o0 p0 0 true ++ bareC o1 p1 0 true) 42) (by first | ((repeat (first | exact List.Mem.head _ | apply List.Mem.tail)); done) | fail)) (bare_in (by omega) (by omega) (by omega)) (bare_in (by omega) (by omega) (by omega))) (Nat.le_refl _) (by simp [maxLen]) (fun k hk => by have := hb k hk; omega)) (fun v B hv => ?_); obtain ⟨f2, A6, c6, rfl, rfl, hf2⟩ := hv)
    (repeat (first | (refine i_dst ?_; (first | (refine i_move ?_; refine l_q rfl rfl rfl (q_move rfl) ?_) | (refine i_assign ?_; refine l_q rfl rfl rfl (q_assign rfl) ?_) | (refine i_bin ?_; refine l_q rfl rfl rfl (by (exact q_rem rfl rfl (by omega) (Int.tmod_eq_emod_of_nonneg (by omega)))) ?_) | (refine i_bldS ?_; refine l_bldS tab rfl rfl rfl rfl (by first | exact CellsOf.agg | exact CellsOf.one rfl) (by first | ((repeat (first | exact RepR.zero | exact AppR.nil | apply RepR.succ | apply AppR.cons)); done) | fail) (by first | ((repeat (first | exact FillR.nil | exact LSets.nil | exact LSet.zero | exact CellsOf.agg | exact rfl | exact CellsOf.one rfl | apply FillR.cons | apply LSets.cons | apply LSet.succ)); done) | fail) (fun w => by kernel_rfl) (fun _ => ?_)))) | refine d_seq ?_ | refine c_region ?_ | refine l_nil ?_ | (refine i_q ?_; (refine d_then ?_))))
    rename_i g0
    rw [hem]
    (refine l_call1 (X := fireA fT q1 g) (by first | ((repeat (first | exact Ext.head | apply Ext.tail)); done) | fail) rfl rfl Try.func28 rfl (by decide) (fun w' h => fevent_spec h.split (en % 3) (by omega) _ 2 2 (foL1 o0 p0) (ins_two rfl rfl (h.roHp (Y := blk b1 (bareC o0 p0 0 true ++ bareC 0 0 0 false) 42) (by first | ((repeat (first | exact List.Mem.head _ | apply List.Mem.tail)); done) | fail)) (bare_in (by omega) (by omega) (by omega)) (bare_in (by omega) (by omega) (by omega))) (Nat.le_refl _) (by simp [maxLen]) (fun k hk => by have := hb k hk; omega)) (fun v B hv => ?_); obtain ⟨g2, A7, c7, rfl, rfl, hg2⟩ := hv)
    have hl1 := eventM_len (foL1 o0 p0) (en % 3) g
    have hl2 := eventM_len (foL2 o1 p1) (en % 3) h'
    have hl3 := eventM_len (foL o0 p0 o1 p1) (en % 3) f
    have hev := fo_event (o0 := o0) (p0 := p0) (o1 := o1) (p1 := p1) (e := en % 3) h0 h1
    generalize hd1 : eventM (foL1 o0 p0) (en % 3) g = d1 at *
    generalize hd2 : eventM (foL2 o1 p1) (en % 3) h' = d2 at *
    generalize hd3 : eventM (foL o0 p0 o1 p1) (en % 3) f = d3 at *
    refine l_hp (fun w h => row0I (h.ext (X := blk g0 [] 3) (by first | ((repeat (first | exact Ext.head | apply Ext.tail)); done) | fail))) ?_
    (refine l_app tab rfl rfl rfl rowII (by first | ((repeat (first | exact Ext.head | apply Ext.tail)); done) | fail) (news := iv d1) (fun w h => by exact row_src (h.mem (X := row _ 1 (.slice A7 _ c7) _ (iv d1)) (by first | ((repeat (first | exact List.Mem.head _ | apply List.Mem.tail)); done) | fail))) (iv_one _) (by omega) (by omega) (fun A8 c8 hA1 hA2 => ?_))
    rw [Nat.zero_add, List.nil_append]
    (repeat ((refine i_dst ?_; (first | (refine i_move ?_; refine l_q rfl rfl rfl (q_move rfl) ?_) | (refine i_bin ?_; refine l_q rfl rfl rfl (by (exact q_rem rfl rfl (by omega) (Int.tmod_eq_emod_of_nonneg (by omega)))) ?_)))))
    rw [hem]
    (refine l_call1 (X := fireA fT q2 h') (by first | ((repeat (first | exact Ext.head | apply Ext.tail)); done) | fail) rfl rfl Try.func28 rfl (by decide) (fun w' h => fevent_spec h.split (en % 3) (by omega) _ 2 2 (foL2 o1 p1) (ins_two rfl rfl (h.roHp (Y := blk b2 (bareC 0 0 0 false ++ bareC o1 p1 0 true) 42) (by first | ((repeat (first | exact List.Mem.head _ | apply List.Mem.tail)); done) | fail)) (bare_in (by omega) (by omega) (by omega)) (bare_in (by omega) (by omega) (by omega))) (Nat.le_refl _) (by simp [maxLen]) (fun k hk => by have := hb k hk; omega)) (fun v B hv => ?_); obtain ⟨h2, A9, c9, rfl, rfl, hh2⟩ := hv)
    rw [hd2]
    (refine l_app tab rfl rfl rfl rowII (by first | ((repeat (first | exact Ext.head | apply Ext.tail)); done) | fail) (news := iv d2) (fun w h => by exact row_src (h.mem (X := row _ 1 (.slice A9 _ c9) _ (iv d2)) (by first | ((repeat (first | exact List.Mem.head _ | apply List.Mem.tail)); done) | fail))) (iv_one _) (by omega) (by omega) (fun A10 c10 hA1 hA2 => ?_))
    rw [← iv_append, ← List.length_append]
    (refine l_call0 rfl rfl Try.func29 rfl (by decide) (fun w' h => ints_spec (xs := d3) (ys := d1 ++ d2) (Ro.rowI (Ro.empty (h.mem (X := row _ 1 (.slice A6 _ c6) _ (iv d3)) (by first | ((repeat (first | exact List.Mem.head _ | apply List.Mem.tail)); done) | fail)))) (Ro.rowI (Ro.empty (h.mem (X := row _ 1 (.slice A10 _ c10) _ (iv (d1 ++ d2))) (by first | ((repeat (first | exact List.Mem.head _ | apply List.Mem.tail)); done) | fail)))) (by omega)) (fun v B hv => ?_); obtain ⟨rfl, rfl⟩ := hv)
    rw [decide_eq_true hev]
    (repeat (first | (refine i_dst ?_; (first | (refine i_move ?_; refine l_q rfl rfl rfl (q_move rfl) ?_) | (refine i_bin ?_; refine l_q rfl rfl rfl (by (exact q_add rfl rfl (by (exact wr_i64 (by omega))))) ?_) | refine l_q rfl rfl rfl (by (exact q_not rfl)) ?_)) | refine c_region ?_ | refine l_nil ?_ | (refine i_q ?_; (first | refine d_then ?_ | refine t_then ?_ | refine t_block ?_)) | refine c_skip ?_ | (refine i_cond ?_; (refine c_cf rfl (by (rfl)) ?_))))
    exact k_again (j + 1, f2, g2, h2) ⟨by dsimp only; omega, by dsimp only; rw [hf2 0 (by omega), hg2 0 (by omega)]; exact fo_count0 h0, by dsimp only; rw [hf2 1 (by omega), hh2 1 (by omega)]; exact fo_count1 h1, fun k hk => by
      have q1 := countM_le (foL o0 p0 o1 p1) (en % 3) f k
      have q2 := countM_le (foL1 o0 p0) (en % 3) g k
      have q3 := countM_le (foL2 o1 p1) (en % 3) h' k
      have q4 := hb k hk
      dsimp only
      rw [hf2 k hk, hg2 k hk, hh2 k hk]
      omega⟩ (by dsimp only; omega) (by first | ((repeat (first | exact trivial | exact rfl | apply Sub.cons | exact look_int rfl (by omega) | exact look_int rfl (by simp) | exact look_int rfl (by simp; omega))); done) | fail) (fun w h => h.psub (by first | ((repeat (first | exact PSub.nil | exact Ext.head | apply Ext.tail | apply PSub.cons)); done) | fail))
  · (repeat (first | (refine i_dst ?_; (first | (refine i_move ?_; refine l_q rfl rfl rfl (q_move rfl) ?_) | (refine i_assign ?_; refine l_q rfl rfl rfl (q_assign rfl) ?_) | (refine i_bin ?_; refine l_q rfl rfl rfl (by (exact q_lss rfl rfl)) ?_))) | refine d_seq ?_ | refine c_region ?_ | refine l_nil ?_ | (refine i_q ?_; (first | refine d_then ?_ | refine d_then_exit ?_ | refine t_then_exit ?_ | refine t_block_eq rfl ?_)) | refine c_exit ?_ | refine c_ret ?_ | (refine i_cond ?_; (refine c_cf rfl (by (exact decide_eq_false (by omega))) ?_))))
    exact t_ret1 Try.results6 rfl rfl
end Go.Proofs.Ytkeekkdaielipaa

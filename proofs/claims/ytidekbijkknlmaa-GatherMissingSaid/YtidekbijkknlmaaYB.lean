/-
  Layer 19: GatherMissing, walked.
-/
import Derived.Test.YtidekbijkknlmaaYA
set_option linter.unusedVariables false
set_option maxRecDepth 100000
namespace Go.Proofs.Ytidekbijkknlmaa
open Go.RowKit
attribute [local irreducible] TL TC TQ TK TO Qt TA
/-- The set of what is gone. -/
def gf (G : Int → Bool) : Value → Option Value
  | .int _ t => if G t = true then some (.bool true) else none
  | _ => none
theorem gf_ok (G : Int → Bool) (t : Int) (v : Value) (hv : MapKept.IsKey (.int .i64) v) : (v = .int .i64 t → gf (fun u => G u || u == t) v = some (.bool true)) ∧ (v ≠ .int .i64 t → gf (fun u => G u || u == t) v = gf G v) := by
  refine ⟨fun h => by subst h; simp [gf], fun h => ?_⟩
  unfold gf
  split
  · rename_i k' u
    have hk : k' = .i64 := hv
    subst hk
    have hne : (u == t) = false := by
      rw [beq_eq_false_iff_ne]
      exact fun e => h (by rw [e])
    simp [hne]
  · rfl
theorem gf_nil : gf (fun _ => false) = fun _ => none := by
  funext v
  unfold gf
  split <;> simp
/-- The rows of one list that came: each tells its place. -/
def Wf (bs : List (List Int)) : Prop := ∀ (j : Nat) l, bs[j]? = some l → ∃ x : Int, l = [x, (j : Int)]
theorem Wf.nil : Wf [] := fun j l h => by simp at h
theorem Wf.snoc {bs : List (List Int)} (h : Wf bs) (x : Int) : Wf (bs ++ [[x, (bs.length : Int)]]) := fun j l hj => by
  by_cases hlt : j < bs.length
  · rw [List.getElem?_append_left hlt] at hj
    exact h j l hj
  · rw [List.getElem?_append_right (by omega)] at hj
    have hz : j - bs.length = 0 := by
      have := (List.getElem?_eq_some_iff.1 hj).1
      rw [List.length_singleton] at this
      omega
    rw [hz] at hj
    simp at hj
    exact ⟨x, by rw [← hj, show j = bs.length by omega]⟩
def baseG (k : Nat) (bs : List (List Int)) : List (List Int) := if k = 0 then [] else bs
theorem takeG_miss {n k : Nat} {bs : List (List Int)} {l : List Int} (hk : k < n) (hn : n ≤ 5) : takeG ((List.range n).map fun k => some (0, k)) [⟨n, bs, false⟩] 4 k l = if k ≠ 0 ∧ k ≠ bs.length then ([⟨n, [], false⟩], none) else if (baseG k bs).length + 1 < n then ([⟨n, baseG k bs ++ [l], false⟩], none) else ([⟨n, [], false⟩], some (0, false, baseG k bs ++ [l])) := by
  have e1 : (if 64 ≤ k then k - 64 else k) = k := if_neg (by omega)
  have e2 : decide (64 ≤ k) = false := decide_eq_false (by omega)
  rw [takeG, if_pos rfl, e1, e2]
  have e3 : ((List.range n).map fun k => some (0, k))[k]?.join = some (0, k) := by simp [hk]
  rw [e3]
  simp only [List.getElem?_cons_zero, putG]
  by_cases h0 : k = 0
  · subst h0
    rw [if_pos rfl, if_neg (show ¬ ((0 : Nat) ≠ 0 ∧ 0 ≠ bs.length) from fun h => h.1 rfl), addG, baseG, if_pos rfl]
    dsimp only [List.length_nil]
    split <;> simp
  · rw [if_neg h0, baseG, if_neg h0]
    by_cases hl : k = bs.length
    · rw [if_neg (by simp [hl]), if_neg (by simp [hl]), addG]
      split <;> simp
    · rw [if_pos (.inr hl), if_pos ⟨h0, hl⟩]
      simp
attribute [local irreducible] blk row bytesA starL memA segA roB
attribute [local irreducible] mapA partA gaA rgA
set_option maxHeartbeats 16000000 in
theorem gatherMissing_walk (W : World) (tables many : Nat) (htab : tables ≤ 255) (hmany : many ≤ 255) (Am : Option Addr) (nm cm : Nat) (ms : List Int) (hms : (roB Am nm ms).C W) (hnm : nm ≤ cm) (hcm : cm ≤ maxLen) :
    Calls Try.prog 6 #[.int .u8 tables, .int .u8 many, .slice Am nm cm] W (Ret W [] fun v _ => v = .bool true) := by
  have hro : Ro (fps []) W (roB Am nm ms) := Ro.empty hms
  have hml := roB_len hms
  have hmo := roB_oct hms
  refine enter (vs := [.int .u8 tables, .int .u8 many, .slice Am nm cm]) Try.func6 rfl Try.ntmps6 rfl (Hold.nil W) ?_
  have hmx : maxLen = 2 ^ 63 - 1 := rfl
  obtain ⟨n, hn⟩ : ∃ n : Nat, n = tables % 5 + 1 := ⟨_, rfl⟩
  have en : (tables : Int) % 5 + 1 = (n : Int) := by omega
  have hn5 : 1 ≤ n ∧ n ≤ 5 := by omega
  have e5 : tables % Int.natAbs 5 + 1 = n := hn.symm
  clear hn
  (repeat (first | (refine i_dst ?_; ((refine i_assign ?_; refine l_q rfl rfl rfl (q_assign rfl) ?_))) | refine d_seq ?_ | refine c_region ?_ | refine l_nil ?_ | (refine i_q ?_; (refine d_then ?_))))
  (refine l_call0 rfl rfl Try.func11 rfl (by decide) (fun w' h => shown19_spec w') (fun v B hv => ?_); obtain ⟨rfl, rfl⟩ := hv)
  (repeat (first | (refine i_dst ?_; (first | (refine i_move ?_; refine l_q rfl rfl rfl (q_move rfl) ?_) | (refine i_assign ?_; refine l_q rfl rfl rfl (q_assign rfl) ?_) | (refine i_bin ?_; refine l_q rfl rfl rfl (by (first | exact q_add rfl rfl (by (first | exact wr_i64 (by omega) | rfl)) | exact q_rem rfl rfl (by omega) (Int.tmod_eq_emod_of_nonneg (by omega)))) ?_) | (refine i_bldS ?_; refine l_bldS tab rfl rfl rfl rfl (by first | exact CellsOf.agg | exact CellsOf.one rfl) (by first | ((repeat (first | exact RepR.zero | exact AppR.nil | apply RepR.succ | apply AppR.cons)); done) | fail) (by first | ((repeat (first | exact FillR.nil | exact LSets.nil | exact LSet.zero | exact CellsOf.agg | exact rfl | exact CellsOf.one rfl | apply FillR.cons | apply LSets.cons | apply LSet.succ)); done) | fail) (fun w => by kernel_rfl) (fun _ => ?_)) | (refine i_mk ?_; refine l_make rfl rfl rfl (fun w => run_makeN tab rfl rfl rfl (by ((simp; omega))) (by ((simp; omega))) w) (fun _ => ?_)) | (refine l_q rfl rfl rfl (by (first | (apply iq_cv; (exact q_conv tab rfl rfl rfl (by (exact wr_i64 (by omega))))) | (apply iq_bld; ((exact q_bld tab rfl rfl rfl (by first | ((repeat (first | exact FillR.nil | exact LSets.nil | exact LSet.zero | exact CellsOf.agg | exact rfl | exact CellsOf.one rfl | apply FillR.cons | apply LSets.cons | apply LSet.succ)); done) | fail) (fun w => by kernel_rfl)))))) ?_))) | refine d_seq ?_ | refine c_region ?_ | refine l_nil ?_ | (refine i_q ?_; (refine d_then ?_))))
  rw [en, e5]
  clear en e5
  rename_i g23 g25
  (refine l_call0 rfl rfl Try.func13 rfl (by decide) (fun w' h => gnew_spec _ 1 1 [ownL g23 n] w' (lc_blk (h.mem (X := blk g25 (lcC (ownL g23 n)) 45) (by first | ((repeat (first | exact List.Mem.head _ | apply List.Mem.tail)); done) | fail)) ⟨Nat.le_refl _, by show n ≤ maxLen; omega⟩) (by omega) (by omega) (by omega) (fun x hx => by simp at hx; subst hx; show n ≤ 1000; omega)) (fun v B hv => ?_); obtain ⟨p, g0, rfl, rfl, hP0, hS0⟩ := hv)
  have hPl0 := plok_new hP0 hS0
  have hG0 : GOk (absG g0.xs) := by rw [hS0]; exact gok_new (fun x hx => by simp at hx; subst hx; show n ≤ 1000; omega)
  rw [plL_own] at hP0
  have hS0' : absG g0.xs = [⟨n, [], false⟩] := hS0
  clear hS0
  (repeat (first | (refine i_dst ?_; ((refine i_assign ?_; refine l_q rfl rfl rfl (q_assign rfl) ?_))) | refine d_seq ?_ | refine c_region ?_ | refine l_nil ?_ | (refine i_q ?_; (refine d_then ?_))))
  refine l_op rfl (fun K hK => e_mkmap (.int .i64) rfl (fun mb => hK _ _ ?_))
  clear hK
  (repeat (first | (refine i_dst ?_; (first | (refine i_move ?_; refine l_q rfl rfl rfl (q_move rfl) ?_) | (refine i_assign ?_; refine l_q rfl rfl rfl (q_assign rfl) ?_) | (refine i_blt ?_; refine l_q rfl rfl rfl (by (first | exact q_len tab rfl rfl | exact q_minN rfl rfl)) ?_) | (refine i_sl ?_; refine l_q rfl rfl rfl (by (exact q_slHi tab rfl rfl rfl rfl (by first | (with_reducible exact Int.toNat_natCast _) | (with_reducible exact Int.toNat_zero) | (with_reducible exact Int.toNat_one) | rfl) (by (omega)))) ?_))) | refine d_seq ?_ | refine c_region ?_ | refine l_nil ?_ | refine c_block ?_ | (refine i_q ?_; (refine d_then ?_))))
  refine d_loop (T := Nat × (Int → Bool)) [1, 7, 8, 9, 10, 37, 38] (fun t => [(39, .int .i64 t.1)]) [gaA p g0] (fun t => [mapA (.int .i64) mb (gf t.2)]) (fun t => t.1 ≤ min nm 50) (fun t => min nm 50 - t.1) (0, fun _ => false) (by first | ((repeat (first | exact Pick.nil | exact rfl | apply Pick.cons)); done) | fail) (Nat.zero_le _) (by first | ((repeat (first | exact trivial | exact rfl | apply Sub.cons | exact look_int rfl (by omega) | exact look_int rfl (by simp) | exact look_int rfl (by simp; omega))); done) | fail) (fun w h => by rw [gf_nil]; exact h.psub (by first | ((repeat (first | exact PSub.nil | exact Ext.head | apply Ext.tail | apply PSub.cons)); done) | fail)) ?_
  rintro ⟨a, G⟩ ha
  dsimp only at ha ⊢
  by_cases hlt : a < min nm 50
  · obtain ⟨o, hoj⟩ : ∃ o, ms[a]? = some o := ⟨_, List.getElem?_eq_getElem (by omega)⟩
    have ho8 := hmo o (List.mem_of_getElem? hoj)
    have hcv : (bv ms)[a]? = some (.int .u8 o) := by simp [bv, hoj]
    (repeat (first | (refine i_dst ?_; (first | (refine i_move ?_; refine l_q rfl rfl rfl (q_move rfl) ?_) | (refine i_assign ?_; refine l_q rfl rfl rfl (q_assign rfl) ?_) | (refine i_load ?_; refine l_q rfl rfl rfl (by (exact q_ldS tab rfl rfl rfl (by (exact fun w h => roB_src (h.ro (by assumption)))) (by (assumption)))) ?_) | (refine i_bin ?_; refine l_q rfl rfl rfl (by (exact q_lss rfl rfl)) ?_) | (refine i_ix ?_; refine l_q rfl rfl rfl (by (exact q_ixS1 tab rfl rfl rfl rfl (by (exact fun w h => roB_src (h.ro (by assumption)))) (by first | (with_reducible exact Int.toNat_natCast _) | (with_reducible exact Int.toNat_zero) | (with_reducible exact Int.toNat_one) | rfl) (by (omega)) (by (omega)))) ?_) | (refine l_q rfl rfl rfl (by ((apply iq_cv; (exact q_conv tab rfl rfl rfl (by (exact wr_i64 (by omega))))))) ?_))) | refine d_seq ?_ | refine c_region ?_ | refine l_nil ?_ | refine c_block ?_ | (refine i_q ?_; (refine d_then ?_)) | refine c_skip ?_ | (refine i_cond ?_; (refine c_ct rfl (by (exact decide_eq_true (by omega))) ?_))))
    refine l_op rfl (fun K hK => e_mapset tab (f' := gf (fun u => G u || u == o)) rfl rfl rfl rfl rfl rfl (by first | ((repeat (first | exact Upd.head | apply Upd.tail)); done) | fail) (fun k' hk' => gf_ok G o k' hk') (hK _ _ ?_))
    clear hK
    (repeat (first | (refine i_dst ?_; (first | (refine i_move ?_; refine l_q rfl rfl rfl (q_move rfl) ?_) | (refine i_bin ?_; refine l_q rfl rfl rfl (by (exact q_add rfl rfl (by (exact wr_i64 (by omega))))) ?_))) | refine c_region ?_ | refine l_nil ?_ | (refine i_q ?_; (first | refine d_then ?_ | refine t_then ?_ | refine t_block ?_))))
    exact k_again (a + 1, fun u => G u || u == o) (by dsimp only; omega) (by dsimp only; omega) (by first | ((repeat (first | exact trivial | exact rfl | apply Sub.cons | exact look_int rfl (by omega) | exact look_int rfl (by simp) | exact look_int rfl (by simp; omega))); done) | fail) (fun w h => h.psub (by first | ((repeat (first | exact PSub.nil | exact Ext.head | apply Ext.tail | apply PSub.cons)); done) | fail))
  · (repeat (first | (refine i_dst ?_; (first | (refine i_move ?_; refine l_q rfl rfl rfl (q_move rfl) ?_) | (refine i_assign ?_; refine l_q rfl rfl rfl (q_assign rfl) ?_) | (refine i_bin ?_; refine l_q rfl rfl rfl (by (first | exact q_lss rfl rfl | exact q_rem rfl rfl (by omega) (Int.tmod_eq_emod_of_nonneg (by omega)))) ?_) | (refine l_q rfl rfl rfl (by ((apply iq_cv; (exact q_conv tab rfl rfl rfl (by (exact wr_i64 (by omega))))))) ?_))) | refine d_seq ?_ | refine c_region ?_ | refine l_nil ?_ | refine c_block ?_ | (refine i_q ?_; (first | refine d_then ?_ | refine d_then_exit ?_ | refine t_then_exit ?_ | refine t_block_eq rfl ?_)) | refine c_exit ?_ | (refine i_cond ?_; (refine c_cf rfl (by (exact decide_eq_false (by omega))) ?_))))
    obtain ⟨m, hm⟩ : ∃ m : Nat, m = many % 21 := ⟨_, rfl⟩
    have em : (many : Int) % 21 = (m : Int) := by omega
    have hm20 : m ≤ 20 := by omega
    rw [em]
    clear em hm hlt
    refine d_loop (T := Nat × GaV × Int × List (List Int)) [7, 8, 9, 10, 49] (fun t => [(50, .int .i64 t.1), (13, .int .i64 t.2.2.1)]) [mapA (.int .i64) mb (gf G)] (fun t => [gaA p t.2.1]) (fun t => t.1 ≤ m ∧ t.2.1.P = ((List.range n).map fun k => some (0, k)) ∧ absG t.2.1.xs = [⟨n, t.2.2.2, false⟩] ∧ GOk (absG t.2.1.xs) ∧ PlOk t.2.1.P t.2.1.xs.length ∧ Wf t.2.2.2 ∧ 0 ≤ t.2.2.1 ∧ t.2.2.1 ≤ 5 * t.1) (fun t => m - t.1) (0, g0, 0, []) (by first | ((repeat (first | exact Pick.nil | exact rfl | apply Pick.cons)); done) | fail) ⟨Nat.zero_le _, hP0, hS0', hG0, hPl0, Wf.nil, by dsimp only; omega, by dsimp only; omega⟩ (by first | ((repeat (first | exact trivial | exact rfl | apply Sub.cons | exact look_int rfl (by omega) | exact look_int rfl (by simp) | exact look_int rfl (by simp; omega))); done) | fail) (fun w h => h.psub (by first | ((repeat (first | exact PSub.nil | exact Ext.head | apply Ext.tail | apply PSub.cons)); done) | fail)) ?_
    clear hP0 hS0' hG0 hPl0
    rintro ⟨i, g, got, bs⟩ ⟨hi, hP, hS, hG, hPl, hW, hg0, hg1⟩
    dsimp only at hi hP hS hG hPl hW hg0 hg1 ⊢
    by_cases him : i < m
    · have hin : 0 ≤ (i : Int) * (n : Int) ∧ (i : Int) * (n : Int) ≤ 100 := by
        have h1 : i * n ≤ 20 * 5 := Nat.mul_le_mul (by omega) hn5.2
        rw [← Int.natCast_mul]
        omega
      (repeat (first | (refine i_dst ?_; (first | (refine i_move ?_; refine l_q rfl rfl rfl (q_move rfl) ?_) | (refine i_assign ?_; refine l_q rfl rfl rfl (q_assign rfl) ?_) | (refine i_bin ?_; refine l_q rfl rfl rfl (by (exact q_lss rfl rfl)) ?_))) | refine d_seq ?_ | refine c_region ?_ | refine l_nil ?_ | refine c_block ?_ | (refine i_q ?_; (refine d_then ?_)) | refine c_skip ?_ | (refine i_cond ?_; (refine c_ct rfl (by (exact decide_eq_true (by omega))) ?_))))
      refine d_loop (T := Nat × GaV × Int × Bool × List (List Int)) [7, 8, 9, 10, 14, 49, 50, 53] (fun t => [(54, .int .i64 t.1), (13, .int .i64 t.2.2.1), (15, .bool t.2.2.2.1)]) [mapA (.int .i64) mb (gf G)] (fun t => [gaA p t.2.1]) (fun t => t.1 ≤ n ∧ t.2.1.P = ((List.range n).map fun k => some (0, k)) ∧ absG t.2.1.xs = [⟨n, t.2.2.2.2, false⟩] ∧ GOk (absG t.2.1.xs) ∧ PlOk t.2.1.P t.2.1.xs.length ∧ Wf t.2.2.2.2 ∧ 0 ≤ t.2.2.1 ∧ t.2.2.1 ≤ 5 * i + t.1 ∧ (t.2.2.2.1 = true → 0 < t.1 → t.1 < n → t.2.2.2.2.length = t.1 ∧ t.2.2.2.2[0]? = some [(i : Int), 0]) ∧ (t.2.2.2.1 = true → t.1 = n → 1 ≤ t.2.2.1)) (fun t => n - t.1) (0, g, got, true, bs) (by first | ((repeat (first | exact Pick.nil | exact rfl | apply Pick.cons)); done) | fail) ⟨Nat.zero_le _, hP, hS, hG, hPl, hW, hg0, by dsimp only; omega, (fun _ h => absurd h (by dsimp only; omega)), fun _ h => absurd h (by dsimp only; omega)⟩ (by first | ((repeat (first | exact trivial | exact rfl | apply Sub.cons | exact look_int rfl (by omega) | exact look_int rfl (by simp) | exact look_int rfl (by simp; omega))); done) | fail) (fun w h => h.psub (by first | ((repeat (first | exact PSub.nil | exact Ext.head | apply Ext.tail | apply PSub.cons)); done) | fail)) ?_
      clear hP hS hG hPl hW hg0 hg1
      rintro ⟨k, g, got, wh, bs⟩ ⟨hk, hP, hS, hG, hPl, hW, hg0, hg1, hw1, hw2⟩
      dsimp only at hk hP hS hG hPl hW hg0 hg1 hw1 hw2 ⊢
      by_cases hkn : k < n
      · (repeat (first | (refine i_dst ?_; (first | (refine i_move ?_; refine l_q rfl rfl rfl (q_move rfl) ?_) | (refine i_assign ?_; refine l_q rfl rfl rfl (q_assign rfl) ?_) | (refine i_bin ?_; refine l_q rfl rfl rfl (by (first | exact q_lss rfl rfl | exact q_add rfl rfl (by (first | exact wr_i64 (by omega) | rfl)) | exact q_mul rfl rfl (by (exact wr_i64 (by omega))))) ?_))) | refine d_seq ?_ | refine c_region ?_ | refine l_nil ?_ | refine c_block ?_ | (refine i_q ?_; (refine d_then ?_)) | refine c_skip ?_ | (refine i_cond ?_; (refine c_ct rfl (by (exact decide_eq_true (by omega))) ?_))))
        by_cases hgone : G ((i : Int) * (n : Int) + (k : Int)) = true
        · refine l_q rfl rfl rfl (q_lookup1 (r := some (.bool true)) tab rfl rfl rfl rfl rfl rfl (by first | ((repeat (first | exact List.Mem.head _ | apply List.Mem.tail)); done) | fail) (if_pos hgone)) ?_
          (repeat (first | (refine i_dst ?_; (first | (refine i_move ?_; refine l_q rfl rfl rfl (q_move rfl) ?_) | (refine i_assign ?_; refine l_q rfl rfl rfl (q_assign rfl) ?_) | (refine i_bin ?_; refine l_q rfl rfl rfl (by (exact q_add rfl rfl (by (exact wr_i64 (by omega))))) ?_))) | refine d_seq ?_ | refine c_region ?_ | refine l_nil ?_ | (refine i_q ?_; (first | refine d_then ?_ | refine t_then ?_ | refine d_then_exit ?_ | refine t_block_eq rfl ?_)) | refine c_exit ?_ | (refine i_cond ?_; (refine c_ct rfl (by (rfl)) ?_))))
          exact k_again (k + 1, g, got, false, bs) ⟨by dsimp only; omega, hP, hS, hG, hPl, hW, hg0, by dsimp only; omega, (fun h => by cases h), fun h => by cases h⟩ (by dsimp only; omega) (by first | ((repeat (first | exact trivial | exact rfl | apply Sub.cons | exact look_int rfl (by omega) | exact look_int rfl (by simp) | exact look_int rfl (by simp; omega))); done) | fail) (fun w h => h.psub (by first | ((repeat (first | exact PSub.nil | exact Ext.head | apply Ext.tail | apply PSub.cons)); done) | fail))
        · refine l_q rfl rfl rfl (q_lookup1 (r := none) tab rfl rfl rfl rfl rfl rfl (by first | ((repeat (first | exact List.Mem.head _ | apply List.Mem.tail)); done) | fail) (if_neg hgone)) ?_
          (repeat (first | (refine i_dst ?_; (first | (refine i_move ?_; refine l_q rfl rfl rfl (q_move rfl) ?_) | (refine i_bldS ?_; refine l_bldS tab rfl rfl rfl rfl (by first | exact CellsOf.agg | exact CellsOf.one rfl) (by first | ((repeat (first | exact RepR.zero | exact AppR.nil | apply RepR.succ | apply AppR.cons)); done) | fail) (by first | ((repeat (first | exact FillR.nil | exact LSets.nil | exact LSet.zero | exact CellsOf.agg | exact rfl | exact CellsOf.one rfl | apply FillR.cons | apply LSets.cons | apply LSet.succ)); done) | fail) (fun w => by kernel_rfl) (fun _ => ?_)) | (refine l_q rfl rfl rfl (by (first | (apply iq_cv; (exact q_conv tab rfl rfl rfl (by (exact wr_u8 (by omega))))) | (apply iq_bld; ((exact q_bld tab rfl rfl rfl (by first | ((repeat (first | exact FillR.nil | exact LSets.nil | exact LSet.zero | exact CellsOf.agg | exact rfl | exact CellsOf.one rfl | apply FillR.cons | apply LSets.cons | apply LSet.succ)); done) | fail) (fun w => by kernel_rfl)))))) ?_))) | refine d_seq ?_ | refine c_region ?_ | refine l_nil ?_ | (refine i_q ?_; (refine d_then ?_)) | refine c_skip ?_ | (refine i_cond ?_; (refine c_cf rfl (by (rfl)) ?_))))
          rename_i g72
          have hoc : Oct [(i : Int), (k : Int)] := fun z hz => by simp at hz; omega
          (refine l_call1 (X := gaA p g) (by first | ((repeat (first | exact Ext.head | apply Ext.tail)); done) | fail) rfl rfl Try.func15 rfl (by decide) (fun w' h => gtook_spec h.split hPl hG 4 k (by omega) (by omega) (some ⟨g72, 0, none⟩) 2 2 [(i : Int), (k : Int)] (Ro.blkB (l := [(i : Int), (k : Int)]) (h.roHp (A := [gaA p g]) (Y := blk g72 [.int .u8 i, .int .u8 k] 5) (by first | ((repeat (first | exact List.Mem.head _ | apply List.Mem.tail)); done) | fail)) hoc) (by omega)) (fun v B hv => ?_); obtain ⟨g1, As, cs, vs, rfl, rfl, hP1, hS1, -, -, hG1, hPl1⟩ := hv)
          have ht := takeG_miss (bs := bs) (l := [(i : Int), (k : Int)]) hkn hn5.2
          rw [hP] at hP1
          rw [hP, hS, ht] at hS1 ⊢
          clear ht
          by_cases hmis : k ≠ 0 ∧ k ≠ bs.length
          · rw [if_pos hmis] at hS1 ⊢
            simp only [sI, sL, sB, Option.isSome_none, List.length_nil]
            (repeat (first | (refine i_dst ?_; (first | (refine i_move ?_; refine l_q rfl rfl rfl (q_move rfl) ?_) | (refine i_assign ?_; refine l_q rfl rfl rfl (q_assign rfl) ?_) | (refine i_bin ?_; refine l_q rfl rfl rfl (by (exact q_add rfl rfl (by (exact wr_i64 (by omega))))) ?_) | (refine i_alloc ?_; (refine l_allocA tab rfl rfl (fun _ => ?_))) | refine l_q rfl rfl rfl (by (first | exact q_extract rfl rfl | exact q_not rfl)) ?_)) | refine d_seq ?_ | refine c_region ?_ | refine l_nil ?_ | (refine i_q ?_; (first | refine d_then ?_ | refine t_then ?_ | refine d_then_exit ?_ | refine t_block_eq rfl ?_)) | refine c_exit ?_ | (refine i_store ?_; ((refine l_setN tab rfl rfl rfl rfl (List.cons_ne_nil _ _) rfl (by first | ((repeat (first | exact Upd.head | apply Upd.tail)); done) | fail) (by first | ((repeat (first | exact LSets.nil | exact LSet.zero | apply LSets.cons | apply LSet.succ)); done) | fail) ?_))) | (refine i_cond ?_; (refine c_ct rfl (by (rfl)) ?_))))
            have hwf : wh = true → False := fun h => hmis.2 (hw1 h (by omega) hkn).1.symm
            exact k_again (k + 1, g1, got, wh, []) ⟨by dsimp only; omega, hP1, hS1, hG1, hPl1, Wf.nil, hg0, by dsimp only; omega, (fun h => (hwf h).elim), fun h => (hwf h).elim⟩ (by dsimp only; omega) (by first | ((repeat (first | exact trivial | exact rfl | apply Sub.cons | exact look_int rfl (by omega) | exact look_int rfl (by simp) | exact look_int rfl (by simp; omega))); done) | fail) (fun w h => h.psub (by first | ((repeat (first | exact PSub.nil | exact Ext.head | apply Ext.tail | apply PSub.cons)); done) | fail))
          · rw [if_neg hmis] at hS1 ⊢
            have hbl : (baseG k bs).length = k := by
              unfold baseG
              split
              · simp; omega
              · omega
            have hWb : Wf (baseG k bs) := by
              unfold baseG
              split
              · exact Wf.nil
              · exact hW
            have hW' : Wf (baseG k bs ++ [[(i : Int), (k : Int)]]) := by
              have := hWb.snoc (i : Int)
              rw [hbl] at this
              exact this
            have hbl' : (baseG k bs ++ [[(i : Int), (k : Int)]]).length = k + 1 := by rw [List.length_append, hbl]; rfl
            have hb0 : wh = true → (baseG k bs ++ [[(i : Int), (k : Int)]])[0]? = some [(i : Int), 0] := fun h => by
              by_cases h0 : k = 0
              · subst h0; simp [baseG]
              · rw [List.getElem?_append_left (by omega), baseG, if_neg h0]
                exact (hw1 h (by omega) hkn).2
            generalize hbb : baseG k bs ++ [[(i : Int), (k : Int)]] = bb at hW' hbl' hb0 hS1 ⊢
            rw [hbl] at hS1 ⊢
            by_cases hk1 : k + 1 < n
            · rw [if_pos hk1] at hS1 ⊢
              simp only [sI, sL, sB, Option.isSome_none, List.length_nil]
              (repeat (first | (refine i_dst ?_; (first | (refine i_move ?_; refine l_q rfl rfl rfl (q_move rfl) ?_) | (refine i_assign ?_; refine l_q rfl rfl rfl (q_assign rfl) ?_) | (refine i_bin ?_; refine l_q rfl rfl rfl (by (exact q_add rfl rfl (by (exact wr_i64 (by omega))))) ?_) | (refine i_alloc ?_; (refine l_allocA tab rfl rfl (fun _ => ?_))) | refine l_q rfl rfl rfl (by (first | exact q_extract rfl rfl | exact q_not rfl)) ?_)) | refine d_seq ?_ | refine c_region ?_ | refine l_nil ?_ | (refine i_q ?_; (first | refine d_then ?_ | refine t_then ?_ | refine d_then_exit ?_ | refine t_block_eq rfl ?_)) | refine c_exit ?_ | (refine i_store ?_; ((refine l_setN tab rfl rfl rfl rfl (List.cons_ne_nil _ _) rfl (by first | ((repeat (first | exact Upd.head | apply Upd.tail)); done) | fail) (by first | ((repeat (first | exact LSets.nil | exact LSet.zero | apply LSets.cons | apply LSet.succ)); done) | fail) ?_))) | (refine i_cond ?_; (refine c_ct rfl (by (rfl)) ?_))))
              exact k_again (k + 1, g1, got, wh, bb) ⟨by dsimp only; omega, hP1, hS1, hG1, hPl1, hW', hg0, by dsimp only; omega, (fun h _ _ => ⟨hbl', hb0 h⟩), fun _ h => absurd h (by dsimp only; omega)⟩ (by dsimp only; omega) (by first | ((repeat (first | exact trivial | exact rfl | apply Sub.cons | exact look_int rfl (by omega) | exact look_int rfl (by simp) | exact look_int rfl (by simp; omega))); done) | fail) (fun w h => h.psub (by first | ((repeat (first | exact PSub.nil | exact Ext.head | apply Ext.tail | apply PSub.cons)); done) | fail))
            · have hkn1 : k + 1 = n := by omega
              rw [if_neg hk1] at hS1 ⊢
              simp only [sI, sL, sB, Option.isSome_some, hbl', hkn1]
              rw [hkn1] at hbl'
              refine l_fact (p := vs.length = bb.length) (fun w h => (Ro.empty (h.mem (X := partA ⟨.slice As n cs, vs, bb⟩) (by first | ((repeat (first | exact List.Mem.head _ | apply List.Mem.tail)); done) | fail))).partLen) ?_
              intro hvl
              obtain ⟨u0, hu0⟩ : ∃ u, vs[0]? = some u := ⟨_, List.getElem?_eq_getElem (by omega)⟩
              obtain ⟨l0, hl0⟩ : ∃ l, bb[0]? = some l := ⟨_, List.getElem?_eq_getElem (by omega)⟩
              obtain ⟨x0, rfl⟩ := hW' 0 l0 hl0
              refine l_hp (hp' := bytesA u0 [x0, ((0 : Nat) : Int)] :: [row 30 1 (.slice As n cs) n vs, starL ((List.zipWith bytesA vs bb).set 0 emp), gaA p g1, mapA (.int .i64) mb (gf G)]) (fun w h => by
                have h1 := part_focus (y := ⟨.slice As n cs, vs, bb⟩) hu0 hl0 (h.ext (X := partA ⟨.slice As n cs, vs, bb⟩) (by first | ((repeat (first | exact Ext.head | apply Ext.tail)); done) | fail))
                dsimp only at h1
                rw [hvl, hbl'] at h1
                exact h1.psub (by first | ((repeat (first | exact PSub.nil | exact Ext.head | apply Ext.tail | apply PSub.cons)); done) | fail)) ?_
              refine l_fact (p := ∃ Au cu, u0 = .slice Au 2 cu) (fun w h => by
                obtain ⟨Au, cu, e1, -⟩ := bytesA_ro (h.get (i := 0) (A := bytesA u0 [x0, ((0 : Nat) : Int)]) rfl)
                exact ⟨Au, cu, e1⟩) ?_
              rintro ⟨A0, c0, rfl⟩
              have hback : ∀ (j : Nat) (u : Value) (l : List Int) (w' : World) (X : Asn), vs[j]? = some u → bb[j]? = some l → St (fps []) W (bytesA u l :: row 30 1 (.slice As n cs) n vs :: starL ((List.zipWith bytesA vs bb).set j emp) :: [X, gaA p g1, mapA (.int .i64) mb (gf G)]) w' → St (fps []) W (partA ⟨.slice As n cs, vs, bb⟩ :: [X, gaA p g1, mapA (.int .i64) mb (gf G)]) w' := fun j u l w' X hu hl h => by
                have e1 : (row 30 1 (.slice As n cs) n vs) = row 30 1 (.slice As n cs) vs.length vs := by rw [hvl, hbl']
                rw [e1] at h
                have h1 := part_unfocus (y := ⟨.slice As n cs, vs, bb⟩) (l' := l) hvl hu hl h
                have e2 : bb.set j l = bb := by
                  have e3 := List.getElem?_eq_some_iff.1 hl
                  rw [← e3.2]
                  exact List.set_getElem_self e3.1
                dsimp only at h1
                rw [e2] at h1
                exact h1
              have hv0 : (bv [x0, ((0 : Nat) : Int)])[0]? = some (.int .u8 x0) := rfl
              (repeat (first | (refine i_dst ?_; (first | (refine i_move ?_; refine l_q rfl rfl rfl (q_move rfl) ?_) | (refine i_assign ?_; refine l_q rfl rfl rfl (q_assign rfl) ?_) | (refine i_load ?_; refine l_q rfl rfl rfl (by (first | (exact q_ld1 tab rfl rfl rfl (by first | ((repeat (first | exact List.Mem.head _ | apply List.Mem.tail)); done) | fail) (by (rfl))) | (exact q_ldS tab rfl rfl rfl (by ((exact fun w h => row_src (h.mem (by first | ((repeat (first | exact List.Mem.head _ | apply List.Mem.tail)); done) | fail))))) (by (assumption))))) ?_) | (refine i_bin ?_; refine l_q rfl rfl rfl (by (first | exact q_neq rfl rfl | exact q_add rfl rfl (by (exact wr_i64 (by omega))))) ?_) | (refine i_blt ?_; refine l_q rfl rfl rfl (by (exact q_len tab rfl rfl)) ?_) | (refine i_ix ?_; refine l_q rfl rfl rfl (by ((exact q_ixS1 tab rfl rfl rfl rfl (by ((exact fun w h => row_src (h.mem (by first | ((repeat (first | exact List.Mem.head _ | apply List.Mem.tail)); done) | fail))))) (by first | (with_reducible exact Int.toNat_natCast _) | (with_reducible exact Int.toNat_zero) | (with_reducible exact Int.toNat_one) | rfl) (by (omega)) (by (omega))))) ?_) | (refine i_alloc ?_; (refine l_allocA tab rfl rfl (fun _ => ?_))) | (refine l_q rfl rfl rfl (by (first | exact q_extract rfl rfl | (apply iq_fld; (exact q_fieldAddr tab rfl rfl rfl rfl rfl rfl rfl)) | exact q_not rfl | exact q_pick_f rfl rfl)) ?_))) | refine d_seq ?_ | refine c_region ?_ | refine l_nil ?_ | refine c_block ?_ | (refine i_q ?_; (refine d_then ?_)) | refine c_skip ?_ | (refine i_guard ?_; (first | refine l_gt rfl rfl rfl ?_ | (refine l_gtd rfl rfl rfl (by (((first | (simp; done) | fail)))) ?_))) | (refine i_store ?_; ((refine l_setN tab rfl rfl rfl rfl (List.cons_ne_nil _ _) rfl (by first | ((repeat (first | exact Upd.head | apply Upd.tail)); done) | fail) (by first | ((repeat (first | exact LSets.nil | exact LSet.zero | apply LSets.cons | apply LSet.succ)); done) | fail) ?_))) | (refine i_cond ?_; (refine c_cf rfl (by (rfl)) ?_))))
              rename_i b17
              refine d_loop (T := Nat) [7, 8, 9, 10, 13, 14, 15, 17, 19, 49, 50, 53, 54, 95, 96] (fun j => [(97, .int .i64 j)]) [blk b17 [.int .i64 0, .bool false, .slice As n cs] 35, gaA p g1, mapA (.int .i64) mb (gf G)] (fun _ => [partA ⟨.slice As n cs, vs, bb⟩]) (fun j => j ≤ n) (fun j => n - j) 0 (by first | ((repeat (first | exact Pick.nil | exact rfl | apply Pick.cons)); done) | fail) (Nat.zero_le _) (by first | ((repeat (first | exact trivial | exact rfl | apply Sub.cons | exact look_int rfl (by omega) | exact look_int rfl (by simp) | exact look_int rfl (by simp; omega))); done) | fail) (fun w h => (hback 0 _ _ w (blk b17 [.int .i64 0, .bool false, .slice As n cs] 35) hu0 hl0 (h.psub (by first | ((repeat (first | exact PSub.nil | exact Ext.head | apply Ext.tail | apply PSub.cons)); done) | fail))).psub (by first | ((repeat (first | exact PSub.nil | exact Ext.head | apply Ext.tail | apply PSub.cons)); done) | fail)) ?_
              intro j hj
              by_cases hjn : j < n
              · obtain ⟨u, hu⟩ : ∃ u, vs[j]? = some u := ⟨_, List.getElem?_eq_getElem (by omega)⟩
                obtain ⟨l, hl⟩ : ∃ l, bb[j]? = some l := ⟨_, List.getElem?_eq_getElem (by omega)⟩
                obtain ⟨x, rfl⟩ := hW' j l hl
                refine c_hp (hp' := bytesA u [x, (j : Int)] :: [row 30 1 (.slice As n cs) n vs, starL ((List.zipWith bytesA vs bb).set j emp), blk b17 [.int .i64 0, .bool false, .slice As n cs] 35, gaA p g1, mapA (.int .i64) mb (gf G)]) (fun w h => by
                  have h1 := part_focus (y := ⟨.slice As n cs, vs, bb⟩) hu hl (h.ext (X := partA ⟨.slice As n cs, vs, bb⟩) (by first | ((repeat (first | exact Ext.head | apply Ext.tail)); done) | fail))
                  dsimp only at h1
                  rw [hvl, hbl'] at h1
                  exact h1.psub (by first | ((repeat (first | exact PSub.nil | exact Ext.head | apply Ext.tail | apply PSub.cons)); done) | fail)) ?_
                refine c_fact (p := ∃ Au cu, u = .slice Au 2 cu) (fun w h => by
                  obtain ⟨Au, cu, e1, -⟩ := bytesA_ro (h.get (i := 0) (A := bytesA u [x, (j : Int)]) rfl)
                  exact ⟨Au, cu, e1⟩) ?_
                rintro ⟨Au, cu, rfl⟩
                have hv1 : (bv [x, (j : Int)])[1]? = some (.int .u8 (j : Int)) := rfl
                (repeat (first | (refine i_dst ?_; (first | (refine i_move ?_; refine l_q rfl rfl rfl (q_move rfl) ?_) | (refine i_assign ?_; refine l_q rfl rfl rfl (q_assign rfl) ?_) | (refine i_load ?_; refine l_q rfl rfl rfl (by ((exact q_ldS tab rfl rfl rfl (by (first | (exact fun w h => row_src (h.mem (by first | ((repeat (first | exact List.Mem.head _ | apply List.Mem.tail)); done) | fail))) | (exact fun w h => bytesA_src (h.mem (by first | ((repeat (first | exact List.Mem.head _ | apply List.Mem.tail)); done) | fail))))) (by (assumption))))) ?_) | (refine i_bin ?_; refine l_q rfl rfl rfl (by (first | exact q_lss rfl rfl | exact q_neq rfl rfl | exact q_add rfl rfl (by (exact wr_i64 (by omega))))) ?_) | (refine i_blt ?_; refine l_q rfl rfl rfl (by (exact q_len tab rfl rfl)) ?_) | (refine i_ix ?_; refine l_q rfl rfl rfl (by ((exact q_ixS1 tab rfl rfl rfl rfl (by (first | (exact fun w h => row_src (h.mem (by first | ((repeat (first | exact List.Mem.head _ | apply List.Mem.tail)); done) | fail))) | (exact fun w h => bytesA_src (h.mem (by first | ((repeat (first | exact List.Mem.head _ | apply List.Mem.tail)); done) | fail))))) (by first | (with_reducible exact Int.toNat_natCast _) | (with_reducible exact Int.toNat_zero) | (with_reducible exact Int.toNat_one) | rfl) (by (omega)) (by (omega))))) ?_) | (refine l_q rfl rfl rfl (by (first | (apply iq_cv; (exact q_conv tab rfl rfl rfl (by (exact wr_i64 (by omega))))) | exact q_pick_f rfl rfl)) ?_))) | refine d_seq ?_ | refine c_region ?_ | refine l_nil ?_ | refine c_block ?_ | (refine i_q ?_; (first | refine d_then ?_ | refine t_then ?_ | refine t_block ?_)) | refine c_skip ?_ | (refine i_guard ?_; (refine l_gt rfl rfl rfl ?_)) | (refine i_cond ?_; (first | refine c_ct rfl (by (exact decide_eq_true (by omega))) ?_ | (refine c_cf rfl (by (((first | (simp; done) | fail)))) ?_)))))
                exact k_again (j + 1) (by omega) (by omega) (by first | ((repeat (first | exact trivial | exact rfl | apply Sub.cons | exact look_int rfl (by omega) | exact look_int rfl (by simp) | exact look_int rfl (by simp; omega))); done) | fail) (fun w h => (hback j _ _ w (blk b17 [.int .i64 0, .bool false, .slice As n cs] 35) hu hl (h.psub (by first | ((repeat (first | exact PSub.nil | exact Ext.head | apply Ext.tail | apply PSub.cons)); done) | fail))).psub (by first | ((repeat (first | exact PSub.nil | exact Ext.head | apply Ext.tail | apply PSub.cons)); done) | fail))
              · refine c_hp (hp' := bytesA (.slice A0 2 c0) [x0, ((0 : Nat) : Int)] :: [row 30 1 (.slice As n cs) n vs, starL ((List.zipWith bytesA vs bb).set 0 emp), blk b17 [.int .i64 0, .bool false, .slice As n cs] 35, gaA p g1, mapA (.int .i64) mb (gf G)]) (fun w h => by
                  have h1 := part_focus (y := ⟨.slice As n cs, vs, bb⟩) hu0 hl0 (h.ext (X := partA ⟨.slice As n cs, vs, bb⟩) (by first | ((repeat (first | exact Ext.head | apply Ext.tail)); done) | fail))
                  dsimp only at h1
                  rw [hvl, hbl'] at h1
                  exact h1.psub (by first | ((repeat (first | exact PSub.nil | exact Ext.head | apply Ext.tail | apply PSub.cons)); done) | fail)) ?_
                cases wh with
                | true =>
                  have hx0 : x0 = (i : Int) := by
                    have := hb0 rfl
                    rw [hl0] at this
                    simpa using this
                  subst hx0
                  (repeat (first | (refine i_dst ?_; (first | (refine i_move ?_; refine l_q rfl rfl rfl (q_move rfl) ?_) | (refine i_load ?_; refine l_q rfl rfl rfl (by (first | (exact q_ld1 tab rfl rfl rfl (by first | ((repeat (first | exact List.Mem.head _ | apply List.Mem.tail)); done) | fail) (by (rfl))) | (exact q_ldS tab rfl rfl rfl (by (first | (exact fun w h => row_src (h.mem (by first | ((repeat (first | exact List.Mem.head _ | apply List.Mem.tail)); done) | fail))) | (exact fun w h => bytesA_src (h.mem (by first | ((repeat (first | exact List.Mem.head _ | apply List.Mem.tail)); done) | fail))))) (by (assumption))))) ?_) | (refine i_bin ?_; refine l_q rfl rfl rfl (by (first | exact q_lss rfl rfl | exact q_neq rfl rfl | exact q_add rfl rfl (by (exact wr_i64 (by omega))))) ?_) | (refine i_ix ?_; refine l_q rfl rfl rfl (by ((exact q_ixS1 tab rfl rfl rfl rfl (by (first | (exact fun w h => row_src (h.mem (by first | ((repeat (first | exact List.Mem.head _ | apply List.Mem.tail)); done) | fail))) | (exact fun w h => bytesA_src (h.mem (by first | ((repeat (first | exact List.Mem.head _ | apply List.Mem.tail)); done) | fail))))) (by first | (with_reducible exact Int.toNat_natCast _) | (with_reducible exact Int.toNat_zero) | (with_reducible exact Int.toNat_one) | rfl) (by (omega)) (by (omega))))) ?_) | (refine l_q rfl rfl rfl (by (first | (apply iq_fld; (exact q_fieldAddr tab rfl rfl rfl rfl rfl rfl rfl)) | (apply iq_cv; (exact q_conv tab rfl rfl rfl (by (exact wr_u8 (by omega))))) | exact q_pick_t rfl rfl)) ?_))) | refine d_seq ?_ | refine c_region ?_ | refine l_nil ?_ | (refine i_q ?_; (first | refine d_then ?_ | refine t_then ?_ | refine d_then_exit ?_ | refine t_then_exit ?_ | refine t_block ?_ | refine t_block_eq rfl ?_)) | refine c_skip ?_ | refine c_exit ?_ | (refine i_guard ?_; (refine l_gt rfl rfl rfl ?_)) | (refine i_cond ?_; ((refine c_cf rfl (by (first | ((first | (simp; done) | fail)) | exact decide_eq_false (by omega))) ?_)))))
                  exact k_again (k + 1, g1, got + 1, true, []) ⟨by dsimp only; omega, hP1, hS1, hG1, hPl1, Wf.nil, by dsimp only; omega, by dsimp only; omega, (fun _ _ h => absurd h (by dsimp only; omega)), fun _ _ => by dsimp only; omega⟩ (by dsimp only; omega) (by first | ((repeat (first | exact trivial | exact rfl | apply Sub.cons | exact look_int rfl (by omega) | exact look_int rfl (by simp) | exact look_int rfl (by simp; omega))); done) | fail) (fun w h => h.psub (by first | ((repeat (first | exact PSub.nil | exact Ext.head | apply Ext.tail | apply PSub.cons)); done) | fail))
                | false =>
                  (repeat (first | (refine i_dst ?_; (first | (refine i_move ?_; refine l_q rfl rfl rfl (q_move rfl) ?_) | (refine i_bin ?_; refine l_q rfl rfl rfl (by (first | exact q_lss rfl rfl | exact q_add rfl rfl (by (exact wr_i64 (by omega))))) ?_) | refine l_q rfl rfl rfl (by (exact q_pick_f rfl rfl)) ?_)) | refine d_seq ?_ | refine c_region ?_ | refine l_nil ?_ | (refine i_q ?_; (first | refine d_then ?_ | refine t_then ?_ | refine d_then_exit ?_ | refine t_then_exit ?_ | refine t_block ?_ | refine t_block_eq rfl ?_)) | refine c_skip ?_ | refine c_exit ?_ | (refine i_guard ?_; (refine l_gf rfl rfl rfl rfl rfl rfl ?_)) | (refine i_cond ?_; (refine c_cf rfl (by (first | rfl | exact decide_eq_false (by omega))) ?_))))
                  exact k_again (k + 1, g1, got + 1, false, []) ⟨by dsimp only; omega, hP1, hS1, hG1, hPl1, Wf.nil, by dsimp only; omega, by dsimp only; omega, (fun h => by cases h), fun h => by cases h⟩ (by dsimp only; omega) (by first | ((repeat (first | exact trivial | exact rfl | apply Sub.cons | exact look_int rfl (by omega) | exact look_int rfl (by simp) | exact look_int rfl (by simp; omega))); done) | fail) (fun w h => h.psub (by first | ((repeat (first | exact PSub.nil | exact Ext.head | apply Ext.tail | apply PSub.cons)); done) | fail))
      · have hkn' : k = n := by omega
        cases wh with
        | true =>
          have hg2 := hw2 rfl hkn'
          (repeat (first | (refine i_dst ?_; (first | (refine i_move ?_; refine l_q rfl rfl rfl (q_move rfl) ?_) | (refine i_assign ?_; refine l_q rfl rfl rfl (q_assign rfl) ?_) | (refine i_bin ?_; refine l_q rfl rfl rfl (by (first | exact q_lss rfl rfl | exact q_add rfl rfl (by (first | exact wr_i64 (by omega) | rfl)) | exact q_sub rfl rfl (by (exact wr_i64 (by omega))))) ?_))) | refine d_seq ?_ | refine c_region ?_ | refine l_nil ?_ | (refine i_q ?_; (first | refine d_then ?_ | refine t_then ?_ | refine d_then_exit ?_ | refine t_then_exit ?_ | refine t_block ?_ | refine t_block_eq rfl ?_)) | refine c_exit ?_ | (refine i_cond ?_; (first | refine c_ct rfl (by (rfl)) ?_ | refine c_cf rfl (by (exact decide_eq_false (by omega))) ?_))))
          exact k_again (i + 1, g, got - 1, bs) ⟨by dsimp only; omega, hP, hS, hG, hPl, hW, by dsimp only; omega, by dsimp only; omega⟩ (by dsimp only; omega) (by first | ((repeat (first | exact trivial | exact rfl | apply Sub.cons | exact look_int rfl (by omega) | exact look_int rfl (by simp) | exact look_int rfl (by simp; omega))); done) | fail) (fun w h => h.psub (by first | ((repeat (first | exact PSub.nil | exact Ext.head | apply Ext.tail | apply PSub.cons)); done) | fail))
        | false =>
          (repeat (first | (refine i_dst ?_; (first | (refine i_move ?_; refine l_q rfl rfl rfl (q_move rfl) ?_) | (refine i_bin ?_; refine l_q rfl rfl rfl (by (first | exact q_lss rfl rfl | exact q_add rfl rfl (by (exact wr_i64 (by omega))))) ?_))) | refine d_seq ?_ | refine c_region ?_ | refine l_nil ?_ | (refine i_q ?_; (first | refine d_then ?_ | refine t_then ?_ | refine d_then_exit ?_ | refine t_then_exit ?_ | refine t_block ?_ | refine t_block_eq rfl ?_)) | refine c_skip ?_ | refine c_exit ?_ | (refine i_cond ?_; (refine c_cf rfl (by (first | rfl | exact decide_eq_false (by omega))) ?_))))
          exact k_again (i + 1, g, got, bs) ⟨by dsimp only; omega, hP, hS, hG, hPl, hW, hg0, by dsimp only; omega⟩ (by dsimp only; omega) (by first | ((repeat (first | exact trivial | exact rfl | apply Sub.cons | exact look_int rfl (by omega) | exact look_int rfl (by simp) | exact look_int rfl (by simp; omega))); done) | fail) (fun w h => h.psub (by first | ((repeat (first | exact PSub.nil | exact Ext.head | apply Ext.tail | apply PSub.cons)); done) | fail))
    · (repeat (first | (refine i_dst ?_; (first | (refine i_move ?_; refine l_q rfl rfl rfl (q_move rfl) ?_) | (refine i_assign ?_; refine l_q rfl rfl rfl (q_assign rfl) ?_) | (refine i_bin ?_; refine l_q rfl rfl rfl (by (first | exact q_lss rfl rfl | exact q_geq rfl rfl)) ?_) | refine l_q rfl rfl rfl (by (exact q_pick_t rfl rfl)) ?_)) | refine d_seq ?_ | refine c_region ?_ | refine l_nil ?_ | (refine i_q ?_; (first | refine d_then ?_ | refine d_then_exit ?_ | refine t_then_exit ?_ | refine t_block_eq rfl ?_)) | refine c_exit ?_ | refine c_ret ?_ | (refine i_guard ?_; (refine l_gt rfl rfl rfl ?_)) | (refine i_cond ?_; (refine c_cf rfl (by (exact decide_eq_false (by omega))) ?_))))
      exact t_hp (hp' := []) (fun w h => h.psub (by first | ((repeat (first | exact PSub.nil | exact Ext.head | apply Ext.tail | apply PSub.cons)); done) | fail)) (t_ret1 Try.results6 rfl (by rw [decide_eq_true hg0]))
end Go.Proofs.Ytidekbijkknlmaa

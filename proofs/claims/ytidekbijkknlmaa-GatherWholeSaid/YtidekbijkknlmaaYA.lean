/-
  Layer 19: GatherOwn, walked.
-/
import Derived.Test.YtidekbijkknlmaaY9
set_option linter.unusedVariables false
set_option maxRecDepth 100000
namespace Go.Proofs.Ytidekbijkknlmaa
open Go.RowKit
attribute [local irreducible] TL TC TQ TK TO Qt TA
section
variable {S : Nat → Prop} {w0 w : World} {F : List Asn}
/-- Bytes of one's own, opened at the first one. -/
theorem by1_open {A : Option Addr} {k c : Nat} {x : Int} {r : List Int} (h : St S w0 (bytesA (.slice A k c) (x :: r) :: F) w) : ∃ z : Nat × List Value, (A = some ⟨z.1, 0, none⟩ ∧ k = r.length + 1 ∧ ∀ y, 0 ≤ y ∧ y ≤ 255 → ∀ F' w', St S w0 (blk z.1 (.int .u8 y :: z.2) 5 :: F') w' → St S w0 (bytesA (.slice (some ⟨z.1, 0, none⟩) k c) (y :: r) :: F') w') ∧ St S w0 (blk z.1 (.int .u8 x :: z.2) 5 :: F) w := by
  obtain ⟨⟨g, junk⟩, ⟨e1, e2, e3, e4, e5, e6⟩, h1⟩ := bytesA_open (i := 0) h rfl (by simp)
  dsimp only at e1 e5 h1
  refine ⟨(g, bv r ++ junk), ⟨e1, by simpa using e2, fun y hy F' w' h => ?_⟩, h1⟩
  have ho : Oct (y :: r) := fun z hz => by
    rcases List.mem_cons.1 hz with rfl | hz
    · exact hy
    · exact e6 z (by simp [hz])
  refine h.see (i := 0) rfl (fun h2 => ?_) (fun b hb => by injection hb with hb; exact blk_S hb.symm)
  have := bytesA_shut (g := g) (c := c) (l := y :: r) (junk := junk) h2 ho (by simpa [bv] using e5) e4
  rw [e2]
  exact this
theorem zipWith_set {vs : List Value} {bs : List (List Int)} {i : Nat} {u : Value} {l' : List Int} (hu : vs[i]? = some u) : List.zipWith bytesA vs (bs.set i l') = (List.zipWith bytesA vs bs).set i (bytesA u l') := by
  apply List.ext_getElem?
  intro j
  by_cases e : i = j
  · subst e
    by_cases hi : i < bs.length
    · have hz : i < (List.zipWith bytesA vs bs).length := by
        have := (List.getElem?_eq_some_iff.1 hu).1
        rw [List.length_zipWith]
        omega
      rw [List.getElem?_set_self hz, List.getElem?_zipWith, hu, List.getElem?_set_self hi]
    · have hz : ¬ i < (List.zipWith bytesA vs bs).length := by rw [List.length_zipWith]; omega
      rw [List.getElem?_eq_none (by rw [List.length_zipWith, List.length_set]; omega), List.getElem?_eq_none (by rw [List.length_set]; omega)]
  · rw [List.getElem?_set_ne e, List.getElem?_zipWith, List.getElem?_zipWith, List.getElem?_set_ne e]
theorem part_focus {y : PartV} {i : Nat} {u : Value} {l : List Int} (hu : y.vs[i]? = some u) (hb : y.bs[i]? = some l) (h : St S w0 (partA y :: F) w) : St S w0 (bytesA u l :: row 30 1 y.v y.vs.length y.vs :: starL ((List.zipWith bytesA y.vs y.bs).set i emp) :: F) w :=
  st_take (j := 1) (i := i) (part_open h) rfl (by simp [List.getElem?_zipWith, hu, hb])
theorem part_unfocus {y : PartV} {i : Nat} {u : Value} {l l' : List Int} (hl : y.vs.length = y.bs.length) (hu : y.vs[i]? = some u) (hb : y.bs[i]? = some l) (h : St S w0 (bytesA u l' :: row 30 1 y.v y.vs.length y.vs :: starL ((List.zipWith bytesA y.vs y.bs).set i emp) :: F) w) : St S w0 (partA ⟨y.v, y.vs, y.bs.set i l'⟩ :: F) w := by
  have h1 : St S w0 (bytesA u l' :: starL ((List.zipWith bytesA y.vs y.bs).set i emp) :: row 30 1 y.v y.vs.length y.vs :: F) w := h.perm (.cons _ (.swap _ _ _))
  have h2 := st_back (X := bytesA u l) (by simp [List.getElem?_zipWith, hu, hb]) h1
  rw [← zipWith_set hu] at h2
  refine part_mk ?_
  dsimp only
  have h3 := st_pure (p := y.vs.length = (y.bs.set i l').length) (by rw [List.length_set]; exact hl) h2
  exact h3.perm (.trans (.cons _ (.swap _ _ _)) (.swap _ _ _))
end
theorem bytes_blk {S : Nat → Prop} {w0 w : World} {F : List Asn} {g : Nat} {l : List Int} (ho : Oct l) (hl : l.length ≤ maxLen) (h : St S w0 (blk g (bv l) 5 :: F) w) : St S w0 (bytesA (.slice (some ⟨g, 0, none⟩) l.length l.length) l :: F) w :=
  h.see (i := 0) rfl (fun h2 => bytesA_shut (junk := []) (by rw [List.append_nil]; exact h2) ho (by simp) hl) (fun b hb => by injection hb with hb; exact blk_S hb.symm)
theorem takeG_own {n k : Nat} {bs : List (List Int)} {l : List Int} (hk : k < n) (hn : n ≤ 5) (hb : bs.length = k) : takeG ((List.range n).map fun k => some (0, k)) [⟨n, bs, false⟩] 4 k l = if k + 1 < n then ([⟨n, bs ++ [l], false⟩], none) else ([⟨n, [], false⟩], some (0, false, bs ++ [l])) := by
  have e1 : (if 64 ≤ k then k - 64 else k) = k := if_neg (by omega)
  have e2 : decide (64 ≤ k) = false := decide_eq_false (by omega)
  rw [takeG, if_pos rfl, e1, e2]
  have e3 : ((List.range n).map fun k => some (0, k))[k]?.join = some (0, k) := by simp [hk]
  rw [e3]
  simp only [List.getElem?_cons_zero, putG]
  by_cases h0 : k = 0
  · subst h0
    have : bs = [] := List.eq_nil_of_length_eq_zero hb
    subst this
    rw [if_pos rfl, addG]
    simp
  · rw [if_neg h0, if_neg (by simp [hb]), addG]
    simp only [hb]
    split <;> simp
def ownL (g n : Nat) : LC := ⟨0, some ⟨g, 0, none⟩, n, n, false, 0, 0, 0, false, false⟩
theorem plL_own (g n : Nat) : plL 0 [ownL g n] = (List.range n).map fun k => some (0, k) := by simp [plL, ownL]
attribute [local irreducible] blk row bytesA starL memA segA roB
attribute [local irreducible] mapA partA gaA rgA
set_option maxHeartbeats 8000000 in
theorem gatherOwn_walk (W : World) (tables : Nat) (htab : tables ≤ 255) (Ab : Option Addr) (nb cb : Nat) (bs : List (List Int)) (hbs : InS (fps []) W 1 (InB1 (fps []) W) Ab nb bs) (hnb : nb ≤ cb) (hcb : cb ≤ maxLen) :
    Calls Try.prog 10 #[.int .u8 tables, .slice Ab nb cb] W (Ret W [] fun v _ => v = .bool true) := by
  have hbl := hbs.len
  refine enter (vs := [.int .u8 tables, .slice Ab nb cb]) Try.func10 rfl Try.ntmps10 rfl (Hold.nil W) ?_
  have hmx : maxLen = 2 ^ 63 - 1 := rfl
  obtain ⟨n, hn⟩ : ∃ n : Nat, n = tables % 5 + 1 := ⟨_, rfl⟩
  have en : (tables : Int) % 5 + 1 = (n : Int) := by omega
  have hn5 : 1 ≤ n ∧ n ≤ 5 := by omega
  have e5 : tables % Int.natAbs 5 + 1 = n := hn.symm
  clear hn
  (repeat (first | (refine i_dst ?_; ((refine i_assign ?_; refine l_q rfl rfl rfl (q_assign rfl) ?_))) | refine d_seq ?_ | refine c_region ?_ | refine l_nil ?_ | (refine i_q ?_; (refine d_then ?_))))
  (refine l_call0 rfl rfl Try.func11 rfl (by decide) (fun w' h => shown19_spec w') (fun v B hv => ?_); obtain ⟨rfl, rfl⟩ := hv)
  (repeat (first | (refine i_dst ?_; (first | (refine i_move ?_; refine l_q rfl rfl rfl (q_move rfl) ?_) | (refine i_assign ?_; refine l_q rfl rfl rfl (q_assign rfl) ?_) | (refine i_bin ?_; refine l_q rfl rfl rfl (by (first | exact q_add rfl rfl (by (first | exact wr_i64 (by omega) | rfl)) | exact q_rem rfl rfl (by omega) (Int.tmod_eq_emod_of_nonneg (by omega)))) ?_) | (refine i_bldS ?_; refine l_bldS tab rfl rfl rfl rfl (by first | exact CellsOf.agg | exact CellsOf.one rfl) (by first | ((repeat (first | exact RepR.zero | exact AppR.nil | apply RepR.succ | apply AppR.cons)); done) | fail) (by first | ((repeat (first | exact FillR.nil | exact LSets.nil | exact LSet.zero | exact CellsOf.agg | exact rfl | exact CellsOf.one rfl | apply FillR.cons | apply LSets.cons | apply LSet.succ)); done) | fail) (fun w => by kernel_rfl) (fun _ => ?_)) | (refine i_mk ?_; refine l_make rfl rfl rfl (fun w => run_makeN tab rfl rfl rfl (by ((simp; omega))) (by ((simp; omega))) w) (fun _ => ?_)) | (refine l_q rfl rfl rfl (by (first | (apply iq_cv; (exact q_conv tab rfl rfl rfl (by (exact wr_i64 (by omega))))) | (apply iq_bld; ((exact q_bld tab rfl rfl rfl (by first | ((repeat (first | exact FillR.nil | exact LSets.nil | exact LSet.zero | exact CellsOf.agg | exact rfl | exact CellsOf.one rfl | apply FillR.cons | apply LSets.cons | apply LSet.succ)); done) | fail) (fun w => by kernel_rfl)))))) ?_))) | refine d_seq ?_ | refine c_region ?_ | refine l_nil ?_ | (refine i_q ?_; (refine d_then ?_))))
  rw [en, e5]
  clear en e5
  rename_i g23 g25
  (refine l_call0 rfl rfl Try.func13 rfl (by decide) (fun w' h => gnew_spec _ 1 1 [ownL g23 n] w' (lc_blk (h.mem (X := blk g25 (lcC (ownL g23 n)) 45) (by first | ((repeat (first | exact List.Mem.head _ | apply List.Mem.tail)); done) | fail)) ⟨Nat.le_refl _, by show n ≤ maxLen; omega⟩) (by omega) (by omega) (by omega) (fun x hx => by simp at hx; subst hx; show n ≤ 1000; omega)) (fun v B hv => ?_); obtain ⟨p, g0, rfl, rfl, hP0, hS0⟩ := hv)
  have hPl0 := plok_new hP0 hS0
  have hG0 : GOk (absG g0.xs) := by rw [hS0]; exact gok_new (fun x hx => by simp at hx; subst hx; show n ≤ 1000; omega)
  rw [plL_own] at hP0
  have hS0' : absG g0.xs = [⟨n, [], false⟩] := hS0
  clear hS0
  (repeat (first | (refine i_dst ?_; (first | (refine i_move ?_; refine l_q rfl rfl rfl (q_move rfl) ?_) | (refine i_assign ?_; refine l_q rfl rfl rfl (q_assign rfl) ?_) | (refine i_alloc ?_; (refine l_allocA tab rfl rfl (fun _ => ?_))))) | refine d_seq ?_ | refine c_region ?_ | refine l_nil ?_ | refine c_block ?_ | (refine i_q ?_; (refine d_then ?_))))
  rename_i b8
  refine d_loop (T := Nat × GaV × Int × Bool × PartV) [1, 5, 6, 7, 8] (fun t => [(27, .int .i64 t.1)]) [] (fun t => [gaA p t.2.1, blk b8 [.int .i64 t.2.2.1, .bool t.2.2.2.1, t.2.2.2.2.v] 35, partA t.2.2.2.2]) (fun t => t.1 ≤ 2 ∧ t.2.1.P = ((List.range n).map fun k => some (0, k)) ∧ absG t.2.1.xs = [⟨n, [], false⟩] ∧ GOk (absG t.2.1.xs) ∧ PlOk t.2.1.P t.2.1.xs.length ∧ (1 ≤ t.1 → t.2.2.2.2.bs.length = n ∧ ∃ r, t.2.2.2.2.bs[0]? = some (99 :: r))) (fun t => 2 - t.1) (0, g0, 0, false, nilP) (by first | ((repeat (first | exact Pick.nil | exact rfl | apply Pick.cons)); done) | fail) ⟨Nat.zero_le _, hP0, hS0', hG0, hPl0, fun h => absurd h (by omega)⟩ (by first | ((repeat (first | exact trivial | exact rfl | apply Sub.cons | exact look_int rfl (by omega) | exact look_int rfl (by simp) | exact look_int rfl (by simp; omega))); done) | fail) (fun w h => (part_nil h).psub (by first | ((repeat (first | exact PSub.nil | exact Ext.head | apply Ext.tail | apply PSub.cons)); done) | fail)) ?_
  clear hP0 hS0' hG0 hPl0 g0
  rintro ⟨tn, g, fi, fl, f⟩ ⟨htn, hP, hS, hG, hPl, hf⟩
  dsimp only at htn hP hS hG hPl hf ⊢
  by_cases hlt : tn < 2
  · (repeat (first | (refine i_dst ?_; (first | (refine i_move ?_; refine l_q rfl rfl rfl (q_move rfl) ?_) | (refine i_assign ?_; refine l_q rfl rfl rfl (q_assign rfl) ?_) | (refine i_bin ?_; refine l_q rfl rfl rfl (by (exact q_lss rfl rfl)) ?_) | (refine i_alloc ?_; (refine l_allocA tab rfl rfl (fun _ => ?_))) | (refine l_q rfl rfl rfl (by ((apply iq_bld; ((exact q_bld tab rfl rfl rfl (by first | ((repeat (first | exact FillR.nil | exact LSets.nil | exact LSet.zero | exact CellsOf.agg | exact rfl | exact CellsOf.one rfl | apply FillR.cons | apply LSets.cons | apply LSet.succ)); done) | fail) (fun w => by kernel_rfl)))))) ?_))) | refine d_seq ?_ | refine c_region ?_ | refine l_nil ?_ | refine c_block ?_ | (refine i_q ?_; (refine d_then ?_)) | refine c_skip ?_ | (refine i_store ?_; ((refine l_setN tab rfl rfl rfl rfl (List.cons_ne_nil _ _) rfl (by first | ((repeat (first | exact Upd.head | apply Upd.tail)); done) | fail) (by first | ((repeat (first | exact LSets.nil | exact LSet.zero | apply LSets.cons | apply LSet.succ)); done) | fail) ?_))) | (refine i_cond ?_; (refine c_ct rfl (by (exact decide_eq_true (by omega))) ?_))))
    rename_i b10
    refine d_loop (T := Nat × GaV × PartV × Int × Bool × PartV) [1, 5, 6, 7, 8, 9, 10, 27, 31] (fun t => [(32, .int .i64 t.1)]) [] (fun t => [gaA p t.2.1, blk b10 [.int .i64 0, .bool false, t.2.2.1.v] 35, partA t.2.2.1, blk b8 [.int .i64 t.2.2.2.1, .bool t.2.2.2.2.1, t.2.2.2.2.2.v] 35, partA t.2.2.2.2.2]) (fun t => t.1 ≤ n ∧ t.2.1.P = ((List.range n).map fun k => some (0, k)) ∧ absG t.2.1.xs = [⟨n, if t.1 < n then t.2.2.1.bs else [], false⟩] ∧ GOk (absG t.2.1.xs) ∧ PlOk t.2.1.P t.2.1.xs.length ∧ t.2.2.1.bs.length = t.1 ∧ (∀ l ∈ t.2.2.1.bs, ∃ r, l = (tn : Int) :: r) ∧ (1 ≤ tn ∨ t.1 = n → t.2.2.2.2.2.bs.length = n ∧ ∃ r, t.2.2.2.2.2.bs[0]? = some (99 :: r))) (fun t => n - t.1) (0, g, nilP, fi, fl, f) (by first | ((repeat (first | exact Pick.nil | exact rfl | apply Pick.cons)); done) | fail) ⟨Nat.zero_le _, hP, by dsimp only [nilP]; rw [if_pos (by omega)]; exact hS, hG, hPl, rfl, (fun l hl => by cases hl), fun h => hf (by omega)⟩ (by first | ((repeat (first | exact trivial | exact rfl | apply Sub.cons | exact look_int rfl (by omega) | exact look_int rfl (by simp) | exact look_int rfl (by simp; omega))); done) | fail) (fun w h => (part_nil h).psub (by first | ((repeat (first | exact PSub.nil | exact Ext.head | apply Ext.tail | apply PSub.cons)); done) | fail)) ?_
    clear hP hS hG hPl hf
    rintro ⟨k, g, wa, fi, fl, f⟩ ⟨hk, hP, hS, hG, hPl, hwl, hwa, hf⟩
    dsimp only at hk hP hS hG hPl hwl hwa hf ⊢
    by_cases hkn : k < n
    · rw [if_pos hkn] at hS
      (repeat (first | (refine i_dst ?_; (first | (refine i_move ?_; refine l_q rfl rfl rfl (q_move rfl) ?_) | (refine i_assign ?_; refine l_q rfl rfl rfl (q_assign rfl) ?_) | (refine i_bin ?_; refine l_q rfl rfl rfl (by (exact q_lss rfl rfl)) ?_) | (refine i_blt ?_; refine l_q rfl rfl rfl (by (exact q_len tab rfl rfl)) ?_) | (refine i_bldS ?_; refine l_bldS tab rfl rfl rfl rfl (by first | exact CellsOf.agg | exact CellsOf.one rfl) (by first | ((repeat (first | exact RepR.zero | exact AppR.nil | apply RepR.succ | apply AppR.cons)); done) | fail) (by first | ((repeat (first | exact FillR.nil | exact LSets.nil | exact LSet.zero | exact CellsOf.agg | exact rfl | exact CellsOf.one rfl | apply FillR.cons | apply LSets.cons | apply LSet.succ)); done) | fail) (fun w => by kernel_rfl) (fun _ => ?_)) | (refine l_q rfl rfl rfl (by ((apply iq_cv; (exact q_conv tab rfl rfl rfl (by (exact wr_u8 (by omega))))))) ?_))) | refine d_seq ?_ | refine c_region ?_ | refine l_nil ?_ | refine c_block ?_ | (refine i_q ?_; (refine d_then ?_)) | refine c_skip ?_ | (refine i_cond ?_; (refine c_ct rfl (by (exact decide_eq_true (by omega))) ?_))))
      rename_i g12
      have ho1 : Oct [(tn : Int)] := oct1 (by omega)
      refine d_if_join (α := Option Addr × Nat × Nat × List Int) (fun z => z.2.2.1 = z.2.2.2.length ∧ z.2.2.1 ≤ 7 ∧ ∃ r, z.2.2.2 = (tn : Int) :: r) (fun z => [(12, .slice z.1 z.2.2.1 z.2.1)]) [1, 5, 6, 7, 8, 9, 10, 11, 27, 31, 32] (by first | ((repeat (first | exact Pick.nil | exact rfl | apply Pick.cons)); done) | fail) (fun z => [bytesA (.slice z.1 z.2.2.1 z.2.1) z.2.2.2, gaA p g, blk b10 [.int .i64 0, .bool false, wa.v] 35, partA wa, blk b8 [.int .i64 fi, .bool fl, f.v] 35, partA f]) ?_ (fun Q' hj1 _ _ => ?_)
      rotate_left
      · by_cases hjb : k < nb
        · obtain ⟨bb, hbj⟩ : ∃ x, bs[k]? = some x := ⟨_, List.getElem?_eq_getElem (by omega)⟩
          obtain ⟨bx, ox, r1, rfl, -, ⟨Ax, cx, rfl, hrx, hx1, hx2⟩, hcx⟩ := hbs.get (by omega) hbj
          have hx0 : ∀ hp w', St (fps []) W hp w' → w'.cell? ⟨bx, ox + (k : Int).toNat, none⟩ = some (.slice Ax bb.length cx) := fun hp w' h => by
            have := (hcx hp w' h) 0 _ rfl
            simpa using this
          have hcut := hrx.take (k := min bb.length 6) (by omega)
          have hl6 : (bb.take (min bb.length 6)).length = min bb.length 6 := by rw [List.length_take]; omega
          clear hcx
          refine c_hp (hp' := row 5 1 (.slice (some ⟨g12, 0, none⟩) 1 1) 1 [.int .u8 tn] :: [gaA p g, blk b10 [.int .i64 0, .bool false, wa.v] 35, partA wa, blk b8 [.int .i64 fi, .bool fl, f.v] 35, partA f]) (fun w h => row_shut (n := 1) (c := 1) (size := 1) (xs := [.int .u8 tn]) (junk := []) (Nat.le_refl _) (by omega) rfl rfl ((h.ext (X := blk g12 [.int .u8 tn] _) (by first | ((repeat (first | exact Ext.head | apply Ext.tail)); done) | fail)).psub (by first | ((repeat (first | exact PSub.nil | exact Ext.head | apply Ext.tail | apply PSub.cons)); done) | fail))) ?_
          (repeat ((refine i_cond ?_; (refine c_ct rfl (by (exact decide_eq_true (by omega))) ?_))))
          (refine a_begin mixed [] 14 rfl (fun w h => h.subl (by first | ((repeat (first | exact SubL.nil | apply SubL.keep | apply SubL.skip)); done) | fail)) ?_)
          ((refine a_q 0 rfl rfl rfl rfl rfl (by decide +kernel) (q_move rfl) ?_; refine a_q 1 rfl rfl rfl rfl rfl (by decide +kernel) (q_move rfl) ?_; refine a_q 2 rfl rfl rfl rfl rfl (by decide +kernel) (q_move rfl) ?_; refine a_q 3 rfl rfl rfl rfl rfl (by decide +kernel) (by (exact q_indexAddr1 tab rfl rfl rfl rfl (by omega))) ?_; (refine a_q 4 rfl rfl rfl rfl rfl (by decide +kernel) (by (exact q_ldc tab rfl rfl rfl (by assumption))) ?_); refine a_q 5 rfl rfl rfl rfl rfl (by decide +kernel) (q_move rfl) ?_; refine a_q 6 rfl rfl rfl rfl rfl (by decide +kernel) (q_move rfl) ?_; refine a_q 7 rfl rfl rfl rfl rfl (by decide +kernel) (by (exact q_indexAddr1 tab rfl rfl rfl rfl (by omega))) ?_; (refine a_q 8 rfl rfl rfl rfl rfl (by decide +kernel) (by (exact q_ldc tab rfl rfl rfl (by assumption))) ?_); refine a_q 9 rfl rfl rfl rfl rfl (by decide +kernel) (by (exact q_len tab rfl rfl)) ?_; refine a_q 10 rfl rfl rfl rfl rfl (by decide +kernel) (by (exact q_minN rfl rfl)) ?_; refine a_q 11 rfl rfl rfl rfl rfl (by decide +kernel) (by (exact q_slHi tab rfl rfl rfl rfl (by first | (with_reducible exact Int.toNat_natCast _) | (with_reducible exact Int.toNat_zero) | (with_reducible exact Int.toNat_one) | rfl) (by (omega)))) ?_))
          (refine a_e 12 rfl (by decide +kernel) rfl (fun K hK => e_app tab rfl rfl rfl rowB (by first | ((repeat (first | exact Ext.head | apply Ext.tail)); done) | fail) (news := bv (bb.take (min bb.length 6))) (fun w h => by rw [Nat.mul_one]; exact roB_src (h.ro hcut)) (bv_one _) (by exact Nat.le_trans (Nat.add_le_add_left (Nat.min_le_right bb.length 6) 1) (by omega)) (by exact Nat.le_trans (Nat.mul_le_mul_right 1 (Nat.add_le_add_left (Nat.min_le_right bb.length 6) 1)) (by omega)) (fun A4 c4 hA1 hA2 => hK _ _ (fun w h => h.subl (by first | ((repeat (first | exact SubL.nil | apply SubL.keep | apply SubL.skip)); done) | fail)) ?_)); clear hK)
          ((refine a_q 13 rfl rfl rfl rfl rfl (by decide +kernel) (q_assign rfl) ?_))
          refine a_done (by decide +kernel) ?_
          have hl7 : ((tn : Int) :: bb.take (min bb.length 6)).length = 1 + min bb.length 6 := by rw [List.length_cons, hl6]; omega
          have ho7 : Oct ((tn : Int) :: bb.take (min bb.length 6)) := fun z hz => by
            rcases List.mem_cons.1 hz with rfl | hz
            · omega
            · exact roB_oct hcut.is z hz
          refine hj1 (A4, c4, 1 + min bb.length 6, (tn : Int) :: bb.take (min bb.length 6)) ⟨hl7.symm, by dsimp only; omega, _, rfl⟩ _ _ (by first | ((repeat (first | exact trivial | exact rfl | apply Sub.cons | exact look_int rfl (by omega) | exact look_int rfl (by simp) | exact look_int rfl (by simp; omega))); done) | fail) (fun w h => ?_)
          exact (h.ext (X := row 5 1 (.slice A4 (1 + min bb.length 6) c4) (1 + min bb.length 6) ([.int .u8 tn] ++ bv (bb.take (min bb.length 6)))) (by first | ((repeat (first | exact Ext.head | apply Ext.tail)); done) | fail)).see (i := 0) (Y := bytesA (.slice A4 (1 + min bb.length 6) c4) ((tn : Int) :: bb.take (min bb.length 6))) rfl (fun h => bytesA_of hl7 ho7 h) (fun b hb => bytesA_rowS b hb) |>.psub (by first | ((repeat (first | exact PSub.nil | exact Ext.head | apply Ext.tail | apply PSub.cons)); done) | fail)
        · (repeat (first | refine c_skip ?_ | (refine i_cond ?_; (refine c_cf rfl (by (exact decide_eq_false (by omega))) ?_))))
          exact hj1 (some ⟨g12, 0, none⟩, 1, 1, [(tn : Int)]) ⟨rfl, by dsimp only; omega, [], rfl⟩ _ _ (by first | ((repeat (first | exact trivial | exact rfl | apply Sub.cons | exact look_int rfl (by omega) | exact look_int rfl (by simp) | exact look_int rfl (by simp; omega))); done) | fail) (fun w h => (bytes_blk (l := [(tn : Int)]) ho1 (by show 1 ≤ maxLen; omega) (h.ext (X := blk g12 [.int .u8 tn] _) (by first | ((repeat (first | exact Ext.head | apply Ext.tail)); done) | fail))).psub (by first | ((repeat (first | exact PSub.nil | exact Ext.head | apply Ext.tail | apply PSub.cons)); done) | fail))
      · rintro ⟨Ao, co, ln, l⟩ ⟨hln, hl7, r, hlr⟩
        dsimp only at hln hl7 hlr ⊢
        subst hlr
        refine c_fact (p := ∃ Az cz, wa.v = .slice Az wa.bs.length cz ∧ wa.bs.length ≤ cz ∧ cz ≤ maxLen ∧ wa.vs.length = wa.bs.length) (fun w h => part_v (h.mem (by first | ((repeat (first | exact List.Mem.head _ | apply List.Mem.tail)); done) | fail))) ?_
        rintro ⟨Az, cz, hwv, hz1, hz2, hz3⟩
        obtain ⟨wv, wvs, wbs⟩ := wa
        dsimp only at hwv hz1 hz3 hwl hwa hS ⊢
        subst hwv
        rw [hwl] at hz1 hz3 ⊢
        refine c_fact (p := Oct ((tn : Int) :: r)) (fun w h => bytesA_oct (h.get (i := 0) (A := bytesA (.slice Ao ln co) ((tn : Int) :: r)) rfl)) ?_
        intro hoc
        refine c_hp (hp' := [row 30 1 (.slice Az k cz) k wvs, starL (List.zipWith bytesA wvs wbs), bytesA (.slice Ao ln co) ((tn : Int) :: r), gaA p g, blk b10 [.int .i64 0, .bool false, .slice Az k cz] 35, blk b8 [.int .i64 fi, .bool fl, f.v] 35, partA f]) (fun w h => by have h1 := part_open (h.ext (X := partA ⟨.slice Az k cz, wvs, wbs⟩) (by first | ((repeat (first | exact Ext.head | apply Ext.tail)); done) | fail)); dsimp only at h1; rw [hz3] at h1; exact h1.psub (by first | ((repeat (first | exact PSub.nil | exact Ext.head | apply Ext.tail | apply PSub.cons)); done) | fail)) ?_
        (repeat (refine d_seq ?_))
        (refine a_beginE mixed [blk b10 [.int .i64 0, .bool false, .slice Az k cz] 35] [] 9 8 rfl (fun w h => h.subl (by first | ((repeat (first | exact SubL.nil | apply SubL.keep | apply SubL.skip)); done) | fail)) (fun w h => h.subl (by first | ((repeat (first | exact SubL.nil | apply SubL.keep | apply SubL.skip)); done) | fail)) ?_)
        ((refine a_q 0 rfl rfl rfl rfl rfl (by decide +kernel) (by ((apply iq_fld; (exact q_fieldAddr tab rfl rfl rfl rfl rfl rfl rfl)))) ?_; ((refine a_y 1 rfl rfl rfl rfl rfl (by decide +kernel) (by ((exact q_ld1 tab rfl rfl rfl (by first | ((repeat (first | exact List.Mem.head _ | apply List.Mem.tail)); done) | fail) (by (rfl))))) ?_)); refine a_q 3 rfl rfl rfl rfl rfl (by decide +kernel) (q_move rfl) ?_))
        (refine a_e 2 rfl (by decide +kernel) rfl (fun K hK => e_bldS tab rfl rfl rfl rfl (by first | exact CellsOf.agg | exact CellsOf.one rfl) (by first | ((repeat (first | exact RepR.zero | exact AppR.nil | apply RepR.succ | apply AppR.cons)); done) | fail) (by first | ((repeat (first | exact FillR.nil | exact LSets.nil | exact LSet.zero | exact CellsOf.agg | exact rfl | exact CellsOf.one rfl | apply FillR.cons | apply LSets.cons | apply LSet.succ)); done) | fail) (fun w => by kernel_rfl) (fun g2 => hK _ _ (fun w h => h.subl (by first | ((repeat (first | exact SubL.nil | apply SubL.keep | apply SubL.skip)); done) | fail)) ?_)); clear hK)
        refine a_hp (hp' := row 5 1 (.slice (some ⟨g2, 0, none⟩) 0 0) 0 [] :: [row 30 1 (.slice Az k cz) k wvs, starL (List.zipWith bytesA wvs wbs), bytesA (.slice Ao ln co) ((tn : Int) :: r), gaA p g, blk b10 [.int .i64 0, .bool false, .slice Az k cz] 35, blk b8 [.int .i64 fi, .bool fl, f.v] 35, partA f]) (fun w h => row0_of h) (fun w h => h.subl (by first | ((repeat (first | exact SubL.nil | apply SubL.keep | apply SubL.skip)); done) | fail)) ?_
        (skip)
        (refine a_e 4 rfl (by decide +kernel) rfl (fun K hK => e_app tab rfl rfl rfl rowB (by first | ((repeat (first | exact Ext.head | apply Ext.tail)); done) | fail) (news := bv ((tn : Int) :: r)) (fun w h => by rw [Nat.mul_one]; exact bytesA_src (h.mem (X := bytesA (.slice Ao ln co) ((tn : Int) :: r)) (by first | ((repeat (first | exact List.Mem.head _ | apply List.Mem.tail)); done) | fail))) (bv_one _) (by omega) (by omega) (fun A2 c2 hA1 hA2 => hK _ _ (fun w h => h.subl (by first | ((repeat (first | exact SubL.nil | apply SubL.keep | apply SubL.skip)); done) | fail)) ?_)); clear hK)
        rw [Nat.zero_add, List.nil_append]
        (skip)
        (refine a_e 5 rfl (by decide +kernel) rfl (fun K hK => e_bldS tab rfl rfl rfl rfl (by first | exact CellsOf.agg | exact CellsOf.one rfl) (by first | ((repeat (first | exact RepR.zero | exact AppR.nil | apply RepR.succ | apply AppR.cons)); done) | fail) (by first | ((repeat (first | exact FillR.nil | exact LSets.nil | exact LSet.zero | exact CellsOf.agg | exact rfl | exact CellsOf.one rfl | apply FillR.cons | apply LSets.cons | apply LSet.succ)); done) | fail) (fun w => by kernel_rfl) (fun g5 => hK _ _ (fun w h => h.subl (by first | ((repeat (first | exact SubL.nil | apply SubL.keep | apply SubL.skip)); done) | fail)) ?_)); clear hK)
        (skip)
        (refine a_e 6 rfl (by decide +kernel) rfl (fun K hK => e_app tab rfl rfl rfl rowBB (by first | ((repeat (first | exact Ext.head | apply Ext.tail)); done) | fail) (news := [.slice A2 ln c2]) (fun w h => SrcAt.blk (h.mem (by first | ((repeat (first | exact List.Mem.head _ | apply List.Mem.tail)); done) | fail)) rfl) (by simp [Value.oneCell']) (by omega) (by omega) (fun A3 c3 hA1 hA2 => hK _ _ (fun w h => h.subl (by first | ((repeat (first | exact SubL.nil | apply SubL.keep | apply SubL.skip)); done) | fail)) ?_)); clear hK)
        ((refine a_q 7 rfl rfl rfl rfl rfl (by decide +kernel) (by ((apply iq_fld; (exact q_fieldAddr tab rfl rfl rfl rfl rfl rfl rfl)))) ?_))
        (refine a_e 8 rfl (by decide +kernel) rfl (fun K hK => e_set tab rfl rfl rfl rfl (by first | ((repeat (first | exact Upd.head | apply Upd.tail)); done) | fail) (by first | ((repeat (first | exact LSet.zero | apply LSet.succ)); done) | fail) (hK _ _ (fun w h => h.subl (by first | ((repeat (first | exact SubL.nil | apply SubL.keep | apply SubL.skip)); done) | fail)) ?_)); clear hK)
        refine a_done (by decide +kernel) ?_
        refine t_hp (hp' := [partA ⟨.slice A3 (k + 1) c3, wvs ++ [.slice A2 ln c2], wbs ++ [(tn : Int) :: r]⟩, bytesA (.slice Ao ln co) ((tn : Int) :: r), gaA p g, blk b10 [.int .i64 0, .bool false, .slice A3 (k + 1) c3] 35, blk b8 [.int .i64 fi, .bool fl, f.v] 35, partA f]) (fun w h => by
          have h1 := (h.ext (X := row 5 1 (.slice A2 ln c2) ln (bv ((tn : Int) :: r))) (by first | ((repeat (first | exact Ext.head | apply Ext.tail)); done) | fail)).see (i := 0) (Y := bytesA (.slice A2 ln c2) ((tn : Int) :: r)) rfl (fun h => bytesA_of hln.symm hoc h) (fun b hb => bytesA_rowS b hb)
          exact (part_shut (F := [bytesA (.slice Ao ln co) ((tn : Int) :: r), gaA p g, blk b10 [.int .i64 0, .bool false, .slice A3 (k + 1) c3] 35, blk b8 [.int .i64 fi, .bool fl, f.v] 35, partA f]) (n := k) (v := .slice A3 (k + 1) c3) (u := .slice A2 ln c2) (vs := wvs) (bs := wbs) (b := (tn : Int) :: r) hz3 (hz3.trans hwl.symm) (h1.psub (by first | ((repeat (first | exact PSub.nil | exact Ext.head | apply Ext.tail | apply PSub.cons)); done) | fail))).psub (by first | ((repeat (first | exact PSub.nil | exact Ext.head | apply Ext.tail | apply PSub.cons)); done) | fail)) ?_
        have hwl' : (wbs ++ [(tn : Int) :: r]).length = k + 1 := by rw [List.length_append, hwl]; rfl
        have hwa' : ∀ l ∈ wbs ++ [(tn : Int) :: r], ∃ r, l = (tn : Int) :: r := fun l hl => by
          rcases List.mem_append.1 hl with h | h
          · exact hwa l h
          · rw [List.mem_singleton] at h; exact ⟨r, h⟩
        have hne : ∀ l ∈ wbs ++ [(tn : Int) :: r], ∃ x r, l = x :: r := fun l hl => by obtain ⟨r, e⟩ := hwa' l hl; exact ⟨_, r, e⟩
        (repeat (first | (refine i_dst ?_; (first | (refine i_move ?_; refine l_q rfl rfl rfl (q_move rfl) ?_) | (refine l_q rfl rfl rfl (by (first | (apply iq_cv; (exact q_conv tab rfl rfl rfl (by (exact wr_u8 (by omega))))) | (apply iq_bld; ((exact q_bld tab rfl rfl rfl (by first | ((repeat (first | exact FillR.nil | exact LSets.nil | exact LSet.zero | exact CellsOf.agg | exact rfl | exact CellsOf.one rfl | apply FillR.cons | apply LSets.cons | apply LSet.succ)); done) | fail) (fun w => by kernel_rfl)))))) ?_))) | refine d_seq ?_ | refine c_region ?_ | (refine i_q ?_; (refine d_then ?_))))
        (refine l_call1 (X := gaA p g) (by first | ((repeat (first | exact Ext.head | apply Ext.tail)); done) | fail) rfl rfl Try.func15 rfl (by decide) (fun w' h => gtook_spec h.split hPl hG 4 k (by omega) (by omega) Ao ln co ((tn : Int) :: r) (Ro.bytes (h.roHp (A := [gaA p g]) (Y := bytesA (.slice Ao ln co) ((tn : Int) :: r)) (by first | ((repeat (first | exact List.Mem.head _ | apply List.Mem.tail)); done) | fail))) (by omega)) (fun v B hv => ?_); obtain ⟨g1, As, cs, vs, rfl, rfl, hP1, hS1, -, -, hG1, hPl1⟩ := hv)
        have ht := takeG_own (l := (tn : Int) :: r) hkn hn5.2 hwl
        rw [hP] at hP1
        rw [hP, hS, ht] at hS1 ⊢
        clear ht
        by_cases hk1 : k + 1 < n
        · rw [if_pos hk1] at hS1 ⊢
          have hS1' : absG g1.xs = [⟨n, if k + 1 < n then wbs ++ [(tn : Int) :: r] else [], false⟩] := by rw [if_pos hk1]; exact hS1
          simp only [sI, sL, sB, Option.isSome_none, List.length_nil]
          refine l_ex (hp' := fun z : Nat × List Value => blk z.1 (.int .u8 tn :: z.2) 5 :: [gaA p g1, partA ⟨.slice A3 (k + 1) c3, wvs ++ [.slice A2 ln c2], wbs ++ [(tn : Int) :: r]⟩, blk b10 [.int .i64 0, .bool false, .slice A3 (k + 1) c3] 35, blk b8 [.int .i64 fi, .bool fl, f.v] 35, partA f]) (fun w h => by1_open ((h.ext (X := bytesA (.slice Ao ln co) ((tn : Int) :: r)) (by first | ((repeat (first | exact Ext.head | apply Ext.tail)); done) | fail)).psub (by first | ((repeat (first | exact PSub.nil | exact Ext.head | apply Ext.tail | apply PSub.cons)); done) | fail))) ?_
          rintro ⟨go, ro⟩ ⟨rfl, -, -⟩
          have hln1 : 1 ≤ ln := by rw [hln]; simp
          (repeat (first | (refine i_dst ?_; (first | (refine i_move ?_; refine l_q rfl rfl rfl (q_move rfl) ?_) | (refine i_assign ?_; refine l_q rfl rfl rfl (q_assign rfl) ?_) | (refine i_bin ?_; refine l_q rfl rfl rfl (by (first | exact q_eql rfl rfl | exact q_add rfl rfl (by (first | exact wr_i64 (by omega) | rfl)) | exact q_sub rfl rfl (by (first | exact wr_i64 (by omega) | rfl)) | exact q_neb tab rfl rfl rfl)) ?_) | (refine i_ix ?_; refine l_q rfl rfl rfl (by (exact q_indexAddr1 tab rfl rfl rfl rfl (by omega))) ?_) | (refine i_alloc ?_; (refine l_allocA tab rfl rfl (fun _ => ?_))) | refine l_q rfl rfl rfl (by (first | exact q_extract rfl rfl | exact q_not rfl)) ?_)) | refine d_seq ?_ | refine c_region ?_ | refine l_nil ?_ | (refine i_q ?_; (first | refine d_then ?_ | refine t_then ?_ | refine d_then_exit ?_ | refine t_block_eq rfl ?_)) | refine c_skip ?_ | refine c_exit ?_ | (refine i_store ?_; (first | (refine l_set tab rfl rfl rfl rfl (by first | ((repeat (first | exact Upd.head | apply Upd.tail)); done) | fail) (by first | ((repeat (first | exact LSet.zero | apply LSet.succ)); done) | fail) ?_) | (refine l_setN tab rfl rfl rfl rfl (List.cons_ne_nil _ _) rfl (by first | ((repeat (first | exact Upd.head | apply Upd.tail)); done) | fail) (by first | ((repeat (first | exact LSets.nil | exact LSet.zero | apply LSets.cons | apply LSet.succ)); done) | fail) ?_))) | (refine i_cond ?_; (first | refine c_ct rfl (by (rfl)) ?_ | (refine c_cf rfl (by ((simp; omega))) ?_)))))
          exact k_again (k + 1, g1, ⟨.slice A3 (k + 1) c3, wvs ++ [.slice A2 ln c2], wbs ++ [(tn : Int) :: r]⟩, fi, fl, f) ⟨by dsimp only; omega, hP1, hS1', hG1, hPl1, hwl', hwa', fun h => hf (by dsimp only at h; omega)⟩ (by dsimp only; omega) (by first | ((repeat (first | exact trivial | exact rfl | apply Sub.cons | exact look_int rfl (by omega) | exact look_int rfl (by simp) | exact look_int rfl (by simp; omega))); done) | fail) (fun w h => h.psub (by first | ((repeat (first | exact PSub.nil | exact Ext.head | apply Ext.tail | apply PSub.cons)); done) | fail))
        · have hkn1 : k + 1 = n := by omega
          rw [if_neg hk1] at hS1 ⊢
          have hS1' : absG g1.xs = [⟨n, if k + 1 < n then wbs ++ [(tn : Int) :: r] else [], false⟩] := by rw [if_neg hk1]; exact hS1
          simp only [sI, sL, sB, Option.isSome_some, hwl', hkn1]
          refine l_ex (hp' := fun z : Nat × List Value => blk z.1 (.int .u8 tn :: z.2) 5 :: [partA ⟨.slice As n cs, vs, wbs ++ [(tn : Int) :: r]⟩, gaA p g1, partA ⟨.slice A3 n c3, wvs ++ [.slice A2 ln c2], wbs ++ [(tn : Int) :: r]⟩, blk b10 [.int .i64 0, .bool false, .slice A3 n c3] 35, blk b8 [.int .i64 fi, .bool fl, f.v] 35, partA f]) (fun w h => by1_open ((h.ext (X := bytesA (.slice Ao ln co) ((tn : Int) :: r)) (by first | ((repeat (first | exact Ext.head | apply Ext.tail)); done) | fail)).psub (by first | ((repeat (first | exact PSub.nil | exact Ext.head | apply Ext.tail | apply PSub.cons)); done) | fail))) ?_
          rintro ⟨go, ro⟩ ⟨rfl, -, -⟩
          have hln1 : 1 ≤ ln := by rw [hln]; simp
          (repeat (first | (refine i_dst ?_; (first | (refine i_move ?_; refine l_q rfl rfl rfl (q_move rfl) ?_) | (refine i_assign ?_; refine l_q rfl rfl rfl (q_assign rfl) ?_) | (refine i_load ?_; refine l_q rfl rfl rfl (by ((exact q_ldN tab rfl rfl rfl rfl (by first | ((repeat (first | exact List.Mem.head _ | apply List.Mem.tail)); done) | fail) (by first | ((repeat (first | exact TakeR.nil | apply TakeR.cons | apply CutR.zero | apply CutR.skip)); done) | fail)))) ?_) | (refine i_bin ?_; refine l_q rfl rfl rfl (by (first | exact q_eql rfl rfl | exact q_sub rfl rfl (by (first | exact wr_i64 (by omega) | rfl)) | exact q_neb tab rfl rfl rfl)) ?_) | (refine i_ix ?_; refine l_q rfl rfl rfl (by (exact q_indexAddr1 tab rfl rfl rfl rfl (by omega))) ?_) | (refine i_alloc ?_; (refine l_allocA tab rfl rfl (fun _ => ?_))) | refine l_q rfl rfl rfl (by (first | exact q_extract rfl rfl | exact q_not rfl)) ?_)) | refine d_seq ?_ | refine c_region ?_ | refine l_nil ?_ | (refine i_q ?_; (refine d_then ?_)) | refine c_skip ?_ | (refine i_store ?_; (first | (refine l_set tab rfl rfl rfl rfl (by first | ((repeat (first | exact Upd.head | apply Upd.tail)); done) | fail) (by first | ((repeat (first | exact LSet.zero | apply LSet.succ)); done) | fail) ?_) | (refine l_setN tab rfl rfl rfl rfl (List.cons_ne_nil _ _) rfl (by first | ((repeat (first | exact Upd.head | apply Upd.tail)); done) | fail) (by first | ((repeat (first | exact LSets.nil | exact LSet.zero | apply LSets.cons | apply LSet.succ)); done) | fail) ?_))) | (refine i_cond ?_; ((refine c_cf rfl (by (first | rfl | (simp; omega))) ?_)))))
          rename_i b13
          (refine l_call0 rfl rfl Try.func17 rfl (by decide) (fun w' h => same19_spec (n := n) (c := cs) (c' := c3) (xs := wbs ++ [(tn : Int) :: r]) 0 false (parts_in (y := ⟨.slice As n cs, vs, wbs ++ [(tn : Int) :: r]⟩) rfl (Ro.empty (h.mem (X := partA ⟨.slice As n cs, vs, wbs ++ [(tn : Int) :: r]⟩) (by first | ((repeat (first | exact List.Mem.head _ | apply List.Mem.tail)); done) | fail)))) (parts_in (y := ⟨.slice A3 n c3, wvs ++ [.slice A2 ln c2], wbs ++ [(tn : Int) :: r]⟩) rfl (Ro.empty (h.mem (X := partA ⟨.slice A3 n c3, wvs ++ [.slice A2 ln c2], wbs ++ [(tn : Int) :: r]⟩) (by first | ((repeat (first | exact List.Mem.head _ | apply List.Mem.tail)); done) | fail)))) (by omega)) (fun v B hv => ?_); obtain ⟨rfl, rfl⟩ := hv)
          have hne2 : (wbs ++ [(tn : Int) :: r]).length = n := by rw [hwl', hkn1]
          by_cases ht0 : tn = 0
          · (repeat (first | (refine i_dst ?_; (first | (refine i_move ?_; refine l_q rfl rfl rfl (q_move rfl) ?_) | (refine i_load ?_; refine l_q rfl rfl rfl (by (first | (exact q_ld1 tab rfl rfl rfl (by first | ((repeat (first | exact List.Mem.head _ | apply List.Mem.tail)); done) | fail) (by (rfl))) | (exact q_ldN tab rfl rfl rfl rfl (by first | ((repeat (first | exact List.Mem.head _ | apply List.Mem.tail)); done) | fail) (by first | ((repeat (first | exact TakeR.nil | apply TakeR.cons | apply CutR.zero | apply CutR.skip)); done) | fail)))) ?_) | (refine i_bin ?_; refine l_q rfl rfl rfl (by (exact q_eql rfl rfl)) ?_) | (refine i_blt ?_; refine l_q rfl rfl rfl (by (exact q_len tab rfl rfl)) ?_) | (refine l_q rfl rfl rfl (by (first | (apply iq_fld; (exact q_fieldAddr tab rfl rfl rfl rfl rfl rfl rfl)) | exact q_not rfl)) ?_))) | refine d_seq ?_ | refine c_region ?_ | refine l_nil ?_ | refine c_block ?_ | (refine i_q ?_; (refine d_then ?_)) | refine c_skip ?_ | (refine i_store ?_; ((refine l_setN tab rfl rfl rfl rfl (List.cons_ne_nil _ _) rfl (by first | ((repeat (first | exact Upd.head | apply Upd.tail)); done) | fail) (by first | ((repeat (first | exact LSets.nil | exact LSet.zero | apply LSets.cons | apply LSet.succ)); done) | fail) ?_))) | (refine i_cond ?_; (first | refine c_ct rfl (by (exact decide_eq_true (by omega))) ?_ | refine c_cf rfl (by (rfl)) ?_))))
            refine d_loop (T := Nat × List (List Int)) [1, 5, 6, 7, 8, 9, 10, 27, 31, 32, 90, 91] (fun t => [(92, .int .i64 t.1)]) [gaA p g1, blk b10 [.int .i64 0, .bool false, .slice A3 n c3] 35, partA ⟨.slice A3 n c3, wvs ++ [.slice A2 ln c2], wbs ++ [(tn : Int) :: r]⟩, blk b8 [.int .i64 0, .bool false, .slice As n cs] 35] (fun t => [partA ⟨.slice As n cs, vs, t.2⟩]) (fun t => t.1 ≤ n ∧ t.2.length = n ∧ (∀ l ∈ t.2, ∃ x r, l = x :: r) ∧ (1 ≤ t.1 → ∃ r, t.2[0]? = some (99 :: r))) (fun t => n - t.1) (0, wbs ++ [(tn : Int) :: r]) (by first | ((repeat (first | exact Pick.nil | exact rfl | apply Pick.cons)); done) | fail) ⟨Nat.zero_le _, by simp; omega, hne, fun h => absurd h (by omega)⟩ (by first | ((repeat (first | exact trivial | exact rfl | apply Sub.cons | exact look_int rfl (by omega) | exact look_int rfl (by simp) | exact look_int rfl (by simp; omega))); done) | fail) (fun w h => h.psub (by first | ((repeat (first | exact PSub.nil | exact Ext.head | apply Ext.tail | apply PSub.cons)); done) | fail)) ?_
            rintro ⟨i, bs'⟩ ⟨hi, hb1, hb2, hb3⟩
            dsimp only at hi hb1 hb2 hb3 ⊢
            by_cases hin : i < n
            · obtain ⟨l1, hl1⟩ : ∃ l, bs'[i]? = some l := ⟨_, List.getElem?_eq_getElem (by omega)⟩
              obtain ⟨x1, r1, rfl⟩ := hb2 l1 (List.mem_of_getElem? hl1)
              refine c_fact (p := vs.length = bs'.length) (fun w h => (Ro.empty (h.get (i := 0) (A := partA ⟨.slice As n cs, vs, bs'⟩) rfl)).partLen) ?_
              intro hvl
              obtain ⟨u, hu⟩ : ∃ u, vs[i]? = some u := ⟨_, List.getElem?_eq_getElem (by omega)⟩
              refine c_hp (hp' := bytesA u (x1 :: r1) :: [row 30 1 (.slice As n cs) n vs, starL ((List.zipWith bytesA vs bs').set i emp), gaA p g1, blk b10 [.int .i64 0, .bool false, .slice A3 n c3] 35, partA ⟨.slice A3 n c3, wvs ++ [.slice A2 ln c2], wbs ++ [(tn : Int) :: r]⟩, blk b8 [.int .i64 0, .bool false, .slice As n cs] 35]) (fun w h => by
                have h1 := part_focus (y := ⟨.slice As n cs, vs, bs'⟩) hu hl1 (h.ext (X := partA ⟨.slice As n cs, vs, bs'⟩) (by first | ((repeat (first | exact Ext.head | apply Ext.tail)); done) | fail))
                dsimp only at h1
                rw [hvl, hb1] at h1
                exact h1.psub (by first | ((repeat (first | exact PSub.nil | exact Ext.head | apply Ext.tail | apply PSub.cons)); done) | fail)) ?_
              refine c_fact (p := ∃ Au cu, u = .slice Au (r1.length + 1) cu) (fun w h => by
                obtain ⟨Au, cu, e1, -⟩ := bytesA_ro (h.get (i := 0) (A := bytesA u (x1 :: r1)) rfl)
                exact ⟨Au, cu, e1⟩) ?_
              rintro ⟨Au, cu, rfl⟩
              refine c_ex (hp' := fun z : Nat × List Value => blk z.1 (.int .u8 x1 :: z.2) 5 :: [row 30 1 (.slice As n cs) n vs, starL ((List.zipWith bytesA vs bs').set i emp), gaA p g1, blk b10 [.int .i64 0, .bool false, .slice A3 n c3] 35, partA ⟨.slice A3 n c3, wvs ++ [.slice A2 ln c2], wbs ++ [(tn : Int) :: r]⟩, blk b8 [.int .i64 0, .bool false, .slice As n cs] 35]) (fun w h => by1_open h) ?_
              rintro ⟨gu, ru⟩ ⟨rfl, -, hcl⟩
              dsimp only at hcl ⊢
              (repeat (first | (refine i_dst ?_; (first | (refine i_move ?_; refine l_q rfl rfl rfl (q_move rfl) ?_) | (refine i_assign ?_; refine l_q rfl rfl rfl (q_assign rfl) ?_) | (refine i_load ?_; refine l_q rfl rfl rfl (by ((exact q_ldS tab rfl rfl rfl (by ((exact fun w h => row_src (h.mem (by first | ((repeat (first | exact List.Mem.head _ | apply List.Mem.tail)); done) | fail))))) (by (assumption))))) ?_) | (refine i_bin ?_; refine l_q rfl rfl rfl (by (first | exact q_lss rfl rfl | exact q_add rfl rfl (by (exact wr_i64 (by omega))))) ?_) | (refine i_ix ?_; refine l_q rfl rfl rfl (by (first | exact q_indexAddr1 tab rfl rfl rfl rfl (by omega) | (exact q_ixS1 tab rfl rfl rfl rfl (by ((exact fun w h => row_src (h.mem (by first | ((repeat (first | exact List.Mem.head _ | apply List.Mem.tail)); done) | fail))))) (by first | (with_reducible exact Int.toNat_natCast _) | (with_reducible exact Int.toNat_zero) | (with_reducible exact Int.toNat_one) | rfl) (by (omega)) (by (omega))))) ?_))) | refine d_seq ?_ | refine c_region ?_ | refine l_nil ?_ | refine c_block ?_ | (refine i_q ?_; (first | refine d_then ?_ | refine t_then ?_ | refine t_block ?_)) | refine c_skip ?_ | (refine i_store ?_; ((refine l_set tab rfl rfl rfl rfl (by first | ((repeat (first | exact Upd.head | apply Upd.tail)); done) | fail) (by first | ((repeat (first | exact LSet.zero | apply LSet.succ)); done) | fail) ?_))) | (refine i_cond ?_; (refine c_ct rfl (by (exact decide_eq_true (by omega))) ?_))))
              refine k_again (i + 1, bs'.set i (99 :: r1)) ⟨by dsimp only; omega, by dsimp only; rw [List.length_set]; exact hb1, (fun l hl => ?_), fun _ => ?_⟩ (by dsimp only; omega) (by first | ((repeat (first | exact trivial | exact rfl | apply Sub.cons | exact look_int rfl (by omega) | exact look_int rfl (by simp) | exact look_int rfl (by simp; omega))); done) | fail) (fun w h => ?_)
              · rcases List.mem_or_eq_of_mem_set hl with h | h
                · exact hb2 l h
                · exact ⟨_, _, h⟩
              · by_cases e : i = 0
                · subst e
                  exact ⟨r1, List.getElem?_set_self (by omega)⟩
                · obtain ⟨r2, hr2⟩ := hb3 (by omega)
                  exact ⟨r2, by dsimp only; rw [List.getElem?_set_ne (by omega)]; exact hr2⟩
              · have h1 := hcl 99 (by omega) [row 30 1 (.slice As n cs) n vs, starL ((List.zipWith bytesA vs bs').set i emp), gaA p g1, blk b10 [.int .i64 0, .bool false, .slice A3 n c3] 35, partA ⟨.slice A3 n c3, wvs ++ [.slice A2 ln c2], wbs ++ [(tn : Int) :: r]⟩, blk b8 [.int .i64 0, .bool false, .slice As n cs] 35] _ (h.psub (by first | ((repeat (first | exact PSub.nil | exact Ext.head | apply Ext.tail | apply PSub.cons)); done) | fail))
                have e1 : (row 30 1 (.slice As n cs) n vs) = row 30 1 (.slice As n cs) vs.length vs := by rw [hvl, hb1]
                rw [e1] at h1
                exact (part_unfocus (y := ⟨.slice As n cs, vs, bs'⟩) hvl hu hl1 h1).psub (by first | ((repeat (first | exact PSub.nil | exact Ext.head | apply Ext.tail | apply PSub.cons)); done) | fail)
            · have hin' : i = n := by omega
              (repeat (first | (refine i_dst ?_; (first | (refine i_move ?_; refine l_q rfl rfl rfl (q_move rfl) ?_) | (refine i_bin ?_; refine l_q rfl rfl rfl (by (first | exact q_lss rfl rfl | exact q_add rfl rfl (by (exact wr_i64 (by omega))))) ?_))) | refine d_seq ?_ | refine c_region ?_ | refine l_nil ?_ | (refine i_q ?_; (first | refine d_then ?_ | refine t_then ?_ | refine d_then_exit ?_ | refine t_then_exit ?_ | refine t_block ?_ | refine t_block_eq rfl ?_)) | refine c_exit ?_ | (refine i_cond ?_; (refine c_cf rfl (by (exact decide_eq_false (by omega))) ?_))))
              exact k_again (k + 1, g1, ⟨.slice A3 n c3, wvs ++ [.slice A2 ln c2], wbs ++ [(tn : Int) :: r]⟩, 0, false, ⟨.slice As n cs, vs, bs'⟩) ⟨by dsimp only; omega, hP1, hS1', hG1, hPl1, hwl', hwa', fun _ => ⟨hb1, hb3 (by omega)⟩⟩ (by dsimp only; omega) (by first | ((repeat (first | exact trivial | exact rfl | apply Sub.cons | exact look_int rfl (by omega) | exact look_int rfl (by simp) | exact look_int rfl (by simp; omega))); done) | fail) (fun w h => h.psub (by first | ((repeat (first | exact PSub.nil | exact Ext.head | apply Ext.tail | apply PSub.cons)); done) | fail))
          · (repeat (first | (refine i_dst ?_; (first | (refine i_move ?_; refine l_q rfl rfl rfl (q_move rfl) ?_) | (refine i_load ?_; refine l_q rfl rfl rfl (by ((exact q_ld1 tab rfl rfl rfl (by first | ((repeat (first | exact List.Mem.head _ | apply List.Mem.tail)); done) | fail) (by (rfl))))) ?_) | (refine i_bin ?_; refine l_q rfl rfl rfl (by (exact q_eql rfl rfl)) ?_) | (refine i_blt ?_; refine l_q rfl rfl rfl (by (exact q_len tab rfl rfl)) ?_) | (refine l_q rfl rfl rfl (by (first | (apply iq_fld; (exact q_fieldAddr tab rfl rfl rfl rfl rfl rfl rfl)) | exact q_not rfl)) ?_))) | refine d_seq ?_ | refine c_region ?_ | refine l_nil ?_ | refine c_block ?_ | (refine i_q ?_; (refine d_then ?_)) | refine c_skip ?_ | (refine i_cond ?_; (refine c_cf rfl (by (first | rfl | exact decide_eq_false (by omega))) ?_))))
            refine d_loop (T := Nat × List (List Int)) [1, 5, 6, 7, 8, 9, 10, 27, 31, 32, 90, 91] (fun t => [(92, .int .i64 t.1)]) [gaA p g1, blk b10 [.int .i64 0, .bool false, .slice A3 n c3] 35, partA ⟨.slice A3 n c3, wvs ++ [.slice A2 ln c2], wbs ++ [(tn : Int) :: r]⟩, blk b8 [.int .i64 fi, .bool fl, f.v] 35, partA f] (fun t => [partA ⟨.slice As n cs, vs, t.2⟩]) (fun t => t.1 ≤ n ∧ t.2.length = n ∧ (∀ l ∈ t.2, ∃ x r, l = x :: r) ∧ (1 ≤ t.1 → ∃ r, t.2[0]? = some (99 :: r))) (fun t => n - t.1) (0, wbs ++ [(tn : Int) :: r]) (by first | ((repeat (first | exact Pick.nil | exact rfl | apply Pick.cons)); done) | fail) ⟨Nat.zero_le _, by simp; omega, hne, fun h => absurd h (by omega)⟩ (by first | ((repeat (first | exact trivial | exact rfl | apply Sub.cons | exact look_int rfl (by omega) | exact look_int rfl (by simp) | exact look_int rfl (by simp; omega))); done) | fail) (fun w h => h.psub (by first | ((repeat (first | exact PSub.nil | exact Ext.head | apply Ext.tail | apply PSub.cons)); done) | fail)) ?_
            rintro ⟨i, bs'⟩ ⟨hi, hb1, hb2, hb3⟩
            dsimp only at hi hb1 hb2 hb3 ⊢
            by_cases hin : i < n
            · obtain ⟨l1, hl1⟩ : ∃ l, bs'[i]? = some l := ⟨_, List.getElem?_eq_getElem (by omega)⟩
              obtain ⟨x1, r1, rfl⟩ := hb2 l1 (List.mem_of_getElem? hl1)
              refine c_fact (p := vs.length = bs'.length) (fun w h => (Ro.empty (h.get (i := 0) (A := partA ⟨.slice As n cs, vs, bs'⟩) rfl)).partLen) ?_
              intro hvl
              obtain ⟨u, hu⟩ : ∃ u, vs[i]? = some u := ⟨_, List.getElem?_eq_getElem (by omega)⟩
              refine c_hp (hp' := bytesA u (x1 :: r1) :: [row 30 1 (.slice As n cs) n vs, starL ((List.zipWith bytesA vs bs').set i emp), gaA p g1, blk b10 [.int .i64 0, .bool false, .slice A3 n c3] 35, partA ⟨.slice A3 n c3, wvs ++ [.slice A2 ln c2], wbs ++ [(tn : Int) :: r]⟩, blk b8 [.int .i64 fi, .bool fl, f.v] 35, partA f]) (fun w h => by
                have h1 := part_focus (y := ⟨.slice As n cs, vs, bs'⟩) hu hl1 (h.ext (X := partA ⟨.slice As n cs, vs, bs'⟩) (by first | ((repeat (first | exact Ext.head | apply Ext.tail)); done) | fail))
                dsimp only at h1
                rw [hvl, hb1] at h1
                exact h1.psub (by first | ((repeat (first | exact PSub.nil | exact Ext.head | apply Ext.tail | apply PSub.cons)); done) | fail)) ?_
              refine c_fact (p := ∃ Au cu, u = .slice Au (r1.length + 1) cu) (fun w h => by
                obtain ⟨Au, cu, e1, -⟩ := bytesA_ro (h.get (i := 0) (A := bytesA u (x1 :: r1)) rfl)
                exact ⟨Au, cu, e1⟩) ?_
              rintro ⟨Au, cu, rfl⟩
              refine c_ex (hp' := fun z : Nat × List Value => blk z.1 (.int .u8 x1 :: z.2) 5 :: [row 30 1 (.slice As n cs) n vs, starL ((List.zipWith bytesA vs bs').set i emp), gaA p g1, blk b10 [.int .i64 0, .bool false, .slice A3 n c3] 35, partA ⟨.slice A3 n c3, wvs ++ [.slice A2 ln c2], wbs ++ [(tn : Int) :: r]⟩, blk b8 [.int .i64 fi, .bool fl, f.v] 35, partA f]) (fun w h => by1_open h) ?_
              rintro ⟨gu, ru⟩ ⟨rfl, -, hcl⟩
              dsimp only at hcl ⊢
              (repeat (first | (refine i_dst ?_; (first | (refine i_move ?_; refine l_q rfl rfl rfl (q_move rfl) ?_) | (refine i_assign ?_; refine l_q rfl rfl rfl (q_assign rfl) ?_) | (refine i_load ?_; refine l_q rfl rfl rfl (by ((exact q_ldS tab rfl rfl rfl (by ((exact fun w h => row_src (h.mem (by first | ((repeat (first | exact List.Mem.head _ | apply List.Mem.tail)); done) | fail))))) (by (assumption))))) ?_) | (refine i_bin ?_; refine l_q rfl rfl rfl (by (first | exact q_lss rfl rfl | exact q_add rfl rfl (by (exact wr_i64 (by omega))))) ?_) | (refine i_ix ?_; refine l_q rfl rfl rfl (by (first | exact q_indexAddr1 tab rfl rfl rfl rfl (by omega) | (exact q_ixS1 tab rfl rfl rfl rfl (by ((exact fun w h => row_src (h.mem (by first | ((repeat (first | exact List.Mem.head _ | apply List.Mem.tail)); done) | fail))))) (by first | (with_reducible exact Int.toNat_natCast _) | (with_reducible exact Int.toNat_zero) | (with_reducible exact Int.toNat_one) | rfl) (by (omega)) (by (omega))))) ?_))) | refine d_seq ?_ | refine c_region ?_ | refine l_nil ?_ | refine c_block ?_ | (refine i_q ?_; (first | refine d_then ?_ | refine t_then ?_ | refine t_block ?_)) | refine c_skip ?_ | (refine i_store ?_; ((refine l_set tab rfl rfl rfl rfl (by first | ((repeat (first | exact Upd.head | apply Upd.tail)); done) | fail) (by first | ((repeat (first | exact LSet.zero | apply LSet.succ)); done) | fail) ?_))) | (refine i_cond ?_; (refine c_ct rfl (by (exact decide_eq_true (by omega))) ?_))))
              refine k_again (i + 1, bs'.set i (99 :: r1)) ⟨by dsimp only; omega, by dsimp only; rw [List.length_set]; exact hb1, (fun l hl => ?_), fun _ => ?_⟩ (by dsimp only; omega) (by first | ((repeat (first | exact trivial | exact rfl | apply Sub.cons | exact look_int rfl (by omega) | exact look_int rfl (by simp) | exact look_int rfl (by simp; omega))); done) | fail) (fun w h => ?_)
              · rcases List.mem_or_eq_of_mem_set hl with h | h
                · exact hb2 l h
                · exact ⟨_, _, h⟩
              · by_cases e : i = 0
                · subst e
                  exact ⟨r1, List.getElem?_set_self (by omega)⟩
                · obtain ⟨r2, hr2⟩ := hb3 (by omega)
                  exact ⟨r2, by dsimp only; rw [List.getElem?_set_ne (by omega)]; exact hr2⟩
              · have h1 := hcl 99 (by omega) [row 30 1 (.slice As n cs) n vs, starL ((List.zipWith bytesA vs bs').set i emp), gaA p g1, blk b10 [.int .i64 0, .bool false, .slice A3 n c3] 35, partA ⟨.slice A3 n c3, wvs ++ [.slice A2 ln c2], wbs ++ [(tn : Int) :: r]⟩, blk b8 [.int .i64 fi, .bool fl, f.v] 35, partA f] _ (h.psub (by first | ((repeat (first | exact PSub.nil | exact Ext.head | apply Ext.tail | apply PSub.cons)); done) | fail))
                have e1 : (row 30 1 (.slice As n cs) n vs) = row 30 1 (.slice As n cs) vs.length vs := by rw [hvl, hb1]
                rw [e1] at h1
                exact (part_unfocus (y := ⟨.slice As n cs, vs, bs'⟩) hvl hu hl1 h1).psub (by first | ((repeat (first | exact PSub.nil | exact Ext.head | apply Ext.tail | apply PSub.cons)); done) | fail)
            · have hin' : i = n := by omega
              (repeat (first | (refine i_dst ?_; (first | (refine i_move ?_; refine l_q rfl rfl rfl (q_move rfl) ?_) | (refine i_bin ?_; refine l_q rfl rfl rfl (by (first | exact q_lss rfl rfl | exact q_add rfl rfl (by (exact wr_i64 (by omega))))) ?_))) | refine d_seq ?_ | refine c_region ?_ | refine l_nil ?_ | (refine i_q ?_; (first | refine d_then ?_ | refine t_then ?_ | refine d_then_exit ?_ | refine t_then_exit ?_ | refine t_block ?_ | refine t_block_eq rfl ?_)) | refine c_exit ?_ | (refine i_cond ?_; (refine c_cf rfl (by (exact decide_eq_false (by omega))) ?_))))
              exact k_again (k + 1, g1, ⟨.slice A3 n c3, wvs ++ [.slice A2 ln c2], wbs ++ [(tn : Int) :: r]⟩, fi, fl, f) ⟨by dsimp only; omega, hP1, hS1', hG1, hPl1, hwl', hwa', fun _ => hf (.inl (by omega))⟩ (by dsimp only; omega) (by first | ((repeat (first | exact trivial | exact rfl | apply Sub.cons | exact look_int rfl (by omega) | exact look_int rfl (by simp) | exact look_int rfl (by simp; omega))); done) | fail) (fun w h => h.psub (by first | ((repeat (first | exact PSub.nil | exact Ext.head | apply Ext.tail | apply PSub.cons)); done) | fail))
    · have hkn' : k = n := by omega
      subst hkn'
      rw [if_neg (by omega)] at hS
      (repeat (first | (refine i_dst ?_; (first | (refine i_move ?_; refine l_q rfl rfl rfl (q_move rfl) ?_) | (refine i_bin ?_; refine l_q rfl rfl rfl (by (first | exact q_lss rfl rfl | exact q_add rfl rfl (by (exact wr_i64 (by omega))))) ?_))) | refine d_seq ?_ | refine c_region ?_ | refine l_nil ?_ | (refine i_q ?_; (first | refine d_then ?_ | refine t_then ?_ | refine d_then_exit ?_ | refine t_then_exit ?_ | refine t_block ?_ | refine t_block_eq rfl ?_)) | refine c_exit ?_ | (refine i_cond ?_; ((refine c_cf rfl (by (((first | (simp; done) | fail)))) ?_)))))
      exact k_again (tn + 1, g, fi, fl, f) ⟨by dsimp only; omega, hP, hS, hG, hPl, fun _ => hf (.inr rfl)⟩ (by dsimp only; omega) (by first | ((repeat (first | exact trivial | exact rfl | apply Sub.cons | exact look_int rfl (by omega) | exact look_int rfl (by simp) | exact look_int rfl (by simp; omega))); done) | fail) (fun w h => h.psub (by first | ((repeat (first | exact PSub.nil | exact Ext.head | apply Ext.tail | apply PSub.cons)); done) | fail))
  · have htn2 : tn = 2 := by omega
    subst htn2
    obtain ⟨hf1, r, hf2⟩ := hf (by omega)
    refine c_fact (p := ∃ Az cz, f.v = .slice Az f.bs.length cz ∧ f.bs.length ≤ cz ∧ cz ≤ maxLen ∧ f.vs.length = f.bs.length) (fun w h => part_v (h.mem (by first | ((repeat (first | exact List.Mem.head _ | apply List.Mem.tail)); done) | fail))) ?_
    rintro ⟨Az, cz, hfv, -, -, hfl⟩
    obtain ⟨fv, fvs, fbs⟩ := f
    dsimp only at hf1 hf2 hfv hfl ⊢
    subst hfv
    rw [hf1] at hfl ⊢
    obtain ⟨u, hu⟩ : ∃ u, fvs[0]? = some u := ⟨_, List.getElem?_eq_getElem (by omega)⟩
    refine c_hp (hp' := bytesA u (99 :: r) :: [row 30 1 (.slice Az n cz) n fvs, blk b8 [.int .i64 fi, .bool fl, .slice Az n cz] 35]) (fun w h => by
      have h1 := part_focus (y := ⟨.slice Az n cz, fvs, fbs⟩) hu hf2 (h.ext (X := partA ⟨.slice Az n cz, fvs, fbs⟩) (by first | ((repeat (first | exact Ext.head | apply Ext.tail)); done) | fail))
      dsimp only at h1
      rw [hfl] at h1
      exact h1.psub (by first | ((repeat (first | exact PSub.nil | exact Ext.head | apply Ext.tail | apply PSub.cons)); done) | fail)) ?_
    refine c_fact (p := ∃ Au cu, u = .slice Au (r.length + 1) cu) (fun w h => by
      obtain ⟨Au, cu, e1, -⟩ := bytesA_ro (h.get (i := 0) (A := bytesA u (99 :: r)) rfl)
      exact ⟨Au, cu, e1⟩) ?_
    rintro ⟨Au, cu, rfl⟩
    refine c_ex (hp' := fun z : Nat × List Value => blk z.1 (.int .u8 99 :: z.2) 5 :: [row 30 1 (.slice Az n cz) n fvs, blk b8 [.int .i64 fi, .bool fl, .slice Az n cz] 35]) (fun w h => by1_open h) ?_
    rintro ⟨gu, ru⟩ ⟨rfl, -, -⟩
    dsimp only
    (repeat (first | (refine i_dst ?_; (first | (refine i_move ?_; refine l_q rfl rfl rfl (q_move rfl) ?_) | (refine i_assign ?_; refine l_q rfl rfl rfl (q_assign rfl) ?_) | (refine i_load ?_; refine l_q rfl rfl rfl (by (first | (exact q_ld1 tab rfl rfl rfl (by first | ((repeat (first | exact List.Mem.head _ | apply List.Mem.tail)); done) | fail) (by (rfl))) | (exact q_ldS tab rfl rfl rfl (by ((exact fun w h => row_src (h.mem (by first | ((repeat (first | exact List.Mem.head _ | apply List.Mem.tail)); done) | fail))))) (by (assumption))))) ?_) | (refine i_bin ?_; refine l_q rfl rfl rfl (by (first | exact q_lss rfl rfl | exact q_eql rfl rfl)) ?_) | (refine i_blt ?_; refine l_q rfl rfl rfl (by (exact q_len tab rfl rfl)) ?_) | (refine i_ix ?_; refine l_q rfl rfl rfl (by (first | exact q_indexAddr1 tab rfl rfl rfl rfl (by omega) | (exact q_ixS1 tab rfl rfl rfl rfl (by ((exact fun w h => row_src (h.mem (by first | ((repeat (first | exact List.Mem.head _ | apply List.Mem.tail)); done) | fail))))) (by first | (with_reducible exact Int.toNat_natCast _) | (with_reducible exact Int.toNat_zero) | (with_reducible exact Int.toNat_one) | rfl) (by (omega)) (by (omega))))) ?_) | (refine l_q rfl rfl rfl (by (first | (apply iq_fld; (exact q_fieldAddr tab rfl rfl rfl rfl rfl rfl rfl)) | exact q_pick_t rfl rfl)) ?_))) | refine d_seq ?_ | refine c_region ?_ | refine l_nil ?_ | (refine i_q ?_; (first | refine d_then ?_ | refine d_then_exit ?_ | refine t_then_exit ?_ | refine t_block_eq rfl ?_)) | refine c_exit ?_ | refine c_ret ?_ | (refine i_guard ?_; (first | refine l_gt rfl rfl rfl ?_ | (refine l_gtd rfl rfl rfl (by (((first | (simp; done) | fail)))) ?_))) | (refine i_cond ?_; (refine c_cf rfl (by (rfl)) ?_))))
    exact t_hp (hp' := []) (fun w h => h.psub (by first | ((repeat (first | exact PSub.nil | exact Ext.head | apply Ext.tail | apply PSub.cons)); done) | fail)) (t_ret1 Try.results10 rfl rfl)
end Go.Proofs.Ytidekbijkknlmaa

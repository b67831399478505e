/-
  Layer 19: Same, and shown, walked.
-/
import Derived.Test.YtidekbijkknlmaaY3
set_option linter.unusedVariables false
set_option maxRecDepth 100000
namespace Go.Proofs.Ytidekbijkknlmaa
open Go.RowKit
attribute [local irreducible] TL TC TQ TK TO Qt TA
/-- Slices of bytes, in a row. -/
def InB1 (S : Nat → Prop) (w0 : World) (v : List Value) (l : List Int) : Prop := ∃ A c, v = [.slice A l.length c] ∧ Ro S w0 (roB A l.length l) ∧ l.length ≤ c ∧ c ≤ maxLen
theorem parts_in {S : Nat → Prop} {w : World} {y : PartV} {A : Option Addr} {n c : Nat} (hv : y.v = .slice A n c) (h : Ro S w (partA y)) : InS S w 1 (InB1 S w) A n y.bs := by
  have hl := h.partLen
  obtain ⟨A', c', e1, -⟩ := row_slice h.partRow.is
  rw [hv] at e1
  injection e1 with e1 e2 e3
  subst e1 e3
  have hn : n = y.vs.length := by omega
  subst hn
  have hrow : Ro S w (row 30 1 (.slice A y.vs.length c) y.vs.length y.vs) := by rw [← hv]; exact h.partRow
  refine InS.rows (y.vs.map fun v => [v]) hl.symm (by simp) (fun r hr => ?_) (by rw [flatten_singles]; exact hrow.rowV) (fun j r x hr hx => ?_)
  · obtain ⟨v, _, rfl⟩ := List.mem_map.1 hr
    rfl
  · simp only [List.getElem?_map, Option.map_eq_some_iff] at hr
    obtain ⟨v, hv, rfl⟩ := hr
    have h1 := h.partOne hv hx
    obtain ⟨A2, c2, e2, e3, e4, -⟩ := bytesA_ro h1.is
    subst e2
    exact ⟨A2, c2, rfl, h1.bytes, e3, e4⟩
attribute [local irreducible] blk row bytesA starL memA segA roB
attribute [local irreducible] mapA partA gaA
set_option maxHeartbeats 8000000 in
theorem same19_spec {w : World} {A A' : Option Addr} {n c c' : Nat} {xs : List (List Int)} (i0 : Int) (lo : Bool) (hx : InS (fps []) w 1 (InB1 (fps []) w) A n xs) (hy : InS (fps []) w 1 (InB1 (fps []) w) A' n xs) (hn : n ≤ 1000000) :
    Calls Try.prog 17 #[.agg #[.int .i64 i0, .bool lo, .slice A n c], .agg #[.int .i64 i0, .bool lo, .slice A' n c']] w (Ret w [] fun v B => v = .bool true ∧ B = []) := by
  have hxl := hx.len
  refine enter (vs := [.agg #[.int .i64 i0, .bool lo, .slice A n c], .agg #[.int .i64 i0, .bool lo, .slice A' n c']]) Try.func17 rfl Try.ntmps17 rfl (Hold.nil w) ?_
  (repeat (first | (refine i_dst ?_; (first | (refine i_move ?_; refine l_q rfl rfl rfl (q_move rfl) ?_) | (refine i_assign ?_; refine l_q rfl rfl rfl (q_assign rfl) ?_) | (refine i_load ?_; refine l_q rfl rfl rfl (by ((exact q_ld1 tab rfl rfl rfl (by first | ((repeat (first | exact List.Mem.head _ | apply List.Mem.tail)); done) | fail) (by (rfl))))) ?_) | (refine i_bin ?_; refine l_q rfl rfl rfl (by (first | exact q_neq rfl rfl | exact q_neb tab rfl rfl rfl)) ?_) | (refine i_blt ?_; refine l_q rfl rfl rfl (by (exact q_len tab rfl rfl)) ?_) | (refine i_box ?_; (refine l_boxA rfl rfl (fun _ => ?_))) | (refine l_q rfl rfl rfl (by (first | (apply iq_fld; (exact q_fieldAddr tab rfl rfl rfl rfl rfl rfl rfl)) | exact q_pick_f rfl rfl)) ?_))) | refine d_seq ?_ | refine c_region ?_ | refine l_nil ?_ | refine c_block ?_ | (refine i_q ?_; (refine d_then ?_)) | refine c_skip ?_ | (refine i_guard ?_; (first | refine l_gt rfl rfl rfl ?_ | (refine l_gtd rfl rfl rfl (by (((first | (simp; done) | fail)))) ?_))) | (refine i_cond ?_; ((refine c_cf rfl (by (((first | (simp; done) | fail)))) ?_)))))
  rename_i bx2 by2
  refine d_loop (T := Nat) [2, 3] (fun i => [(5, .int .i64 i)]) [blk by2 [.int .i64 i0, .bool lo, .slice A' n c'] 35, blk bx2 [.int .i64 i0, .bool lo, .slice A n c] 35] (fun _ => []) (fun i => i ≤ n) (fun i => n - i) 0 (by first | ((repeat (first | exact Pick.nil | exact rfl | apply Pick.cons)); done) | fail) (Nat.zero_le _) (by first | ((repeat (first | exact trivial | exact rfl | apply Sub.cons | exact look_int rfl (by omega) | exact look_int rfl (by simp) | exact look_int rfl (by simp; omega))); done) | fail) (fun w h => h.psub (by first | ((repeat (first | exact PSub.nil | exact Ext.head | apply Ext.tail | apply PSub.cons)); done) | fail)) ?_
  rintro i hi
  by_cases hlt : i < n
  · obtain ⟨xb, hxi⟩ : ∃ x, xs[i]? = some x := ⟨_, List.getElem?_eq_getElem (by omega)⟩
    obtain ⟨bx, ox, r1, rfl, -, ⟨Ax, cx, rfl, hrx, -, -⟩, hcx⟩ := hx.get (by omega) hxi
    obtain ⟨by_, oy, r2, rfl, -, ⟨Ay, cy, rfl, hry, -, -⟩, hcy⟩ := hy.get (by omega) hxi
    have hx0 : ∀ hp w', St (fps []) w hp w' → w'.cell? ⟨bx, ox + (i : Int).toNat, none⟩ = some (.slice Ax xb.length cx) := fun hp w' h => by
      have := (hcx hp w' h) 0 _ rfl
      simpa using this
    have hy0 : ∀ hp w', St (fps []) w hp w' → w'.cell? ⟨by_, oy + (i : Int).toNat, none⟩ = some (.slice Ay xb.length cy) := fun hp w' h => by
      have := (hcy hp w' h) 0 _ rfl
      simpa using this
    clear hcx hcy
    have hst : ((strOfNums xb).toList == (strOfNums xb).toList) = true := by simp
    (repeat (first | (refine i_dst ?_; (first | (refine i_move ?_; refine l_q rfl rfl rfl (q_move rfl) ?_) | (refine i_load ?_; refine l_q rfl rfl rfl (by ((exact q_ld1 tab rfl rfl rfl (by first | ((repeat (first | exact List.Mem.head _ | apply List.Mem.tail)); done) | fail) (by (rfl))))) ?_) | (refine i_bin ?_; refine l_q rfl rfl rfl (by (exact q_lss rfl rfl)) ?_) | (refine i_blt ?_; refine l_q rfl rfl rfl (by (exact q_len tab rfl rfl)) ?_) | (refine l_q rfl rfl rfl (by ((apply iq_fld; (exact q_fieldAddr tab rfl rfl rfl rfl rfl rfl rfl)))) ?_))) | refine d_seq ?_ | refine c_region ?_ | refine l_nil ?_ | refine c_block ?_ | (refine i_q ?_; (refine d_then ?_)) | refine c_skip ?_ | (refine i_cond ?_; (refine c_ct rfl (by (exact decide_eq_true (by omega))) ?_))))
    (refine a_begin mixed _ 13 rfl (fun w h => h) ?_)
    ((refine a_q 0 rfl rfl rfl rfl rfl (by decide +kernel) (by ((apply iq_fld; (exact q_fieldAddr tab rfl rfl rfl rfl rfl rfl rfl)))) ?_; ((refine a_q 1 rfl rfl rfl rfl rfl (by decide +kernel) (by ((exact q_ld1 tab rfl rfl rfl (by first | ((repeat (first | exact List.Mem.head _ | apply List.Mem.tail)); done) | fail) (by (rfl))))) ?_)); refine a_q 2 rfl rfl rfl rfl rfl (by decide +kernel) (q_move rfl) ?_; refine a_q 3 rfl rfl rfl rfl rfl (by decide +kernel) (by (exact q_indexAddr1 tab rfl rfl rfl rfl (by omega))) ?_; (refine a_q 4 rfl rfl rfl rfl rfl (by decide +kernel) (by (exact q_ldc tab rfl rfl rfl (by assumption))) ?_); refine a_q 5 rfl rfl rfl rfl rfl (by decide +kernel) (by ((apply iq_cv; (exact q_str tab rfl rfl rfl rfl (fun w h => h.ro (by assumption)))))) ?_; refine a_q 6 rfl rfl rfl rfl rfl (by decide +kernel) (by ((apply iq_fld; (exact q_fieldAddr tab rfl rfl rfl rfl rfl rfl rfl)))) ?_; ((refine a_q 7 rfl rfl rfl rfl rfl (by decide +kernel) (by ((exact q_ld1 tab rfl rfl rfl (by first | ((repeat (first | exact List.Mem.head _ | apply List.Mem.tail)); done) | fail) (by (rfl))))) ?_)); refine a_q 8 rfl rfl rfl rfl rfl (by decide +kernel) (q_move rfl) ?_; refine a_q 9 rfl rfl rfl rfl rfl (by decide +kernel) (by (exact q_indexAddr1 tab rfl rfl rfl rfl (by omega))) ?_; (refine a_q 10 rfl rfl rfl rfl rfl (by decide +kernel) (by (exact q_ldc tab rfl rfl rfl (by assumption))) ?_); refine a_q 11 rfl rfl rfl rfl rfl (by decide +kernel) (by ((apply iq_cv; (exact q_str tab rfl rfl rfl rfl (fun w h => h.ro (by assumption)))))) ?_; refine a_q 12 rfl rfl rfl rfl rfl (by decide +kernel) (by (exact q_nes rfl rfl)) ?_))
    refine a_done (by decide +kernel) ?_
    rw [hst]
    (repeat (first | (refine i_dst ?_; (first | (refine i_move ?_; refine l_q rfl rfl rfl (q_move rfl) ?_) | (refine i_assign ?_; refine l_q rfl rfl rfl (q_assign rfl) ?_) | (refine i_bin ?_; refine l_q rfl rfl rfl (by (exact q_add rfl rfl (by (exact wr_i64 (by omega))))) ?_))) | refine c_region ?_ | refine l_nil ?_ | (refine i_q ?_; (first | refine d_then ?_ | refine t_then ?_ | refine t_block ?_)) | refine c_skip ?_ | (refine i_cond ?_; (refine c_cf rfl (by (rfl)) ?_))))
    exact k_again (i + 1) (by omega) (by omega) (by first | ((repeat (first | exact trivial | exact rfl | apply Sub.cons | exact look_int rfl (by omega) | exact look_int rfl (by simp) | exact look_int rfl (by simp; omega))); done) | fail) (fun w h => h.psub (by first | ((repeat (first | exact PSub.nil | exact Ext.head | apply Ext.tail | apply PSub.cons)); done) | fail))
  · have hin : i = n := by omega
    (repeat (first | (refine i_dst ?_; (first | (refine i_move ?_; refine l_q rfl rfl rfl (q_move rfl) ?_) | (refine i_assign ?_; refine l_q rfl rfl rfl (q_assign rfl) ?_) | (refine i_load ?_; refine l_q rfl rfl rfl (by ((exact q_ld1 tab rfl rfl rfl (by first | ((repeat (first | exact List.Mem.head _ | apply List.Mem.tail)); done) | fail) (by (rfl))))) ?_) | (refine i_bin ?_; refine l_q rfl rfl rfl (by (exact q_lss rfl rfl)) ?_) | (refine i_blt ?_; refine l_q rfl rfl rfl (by (exact q_len tab rfl rfl)) ?_) | (refine l_q rfl rfl rfl (by ((apply iq_fld; (exact q_fieldAddr tab rfl rfl rfl rfl rfl rfl rfl)))) ?_))) | refine d_seq ?_ | refine c_region ?_ | refine l_nil ?_ | (refine i_q ?_; (first | refine d_then ?_ | refine d_then_exit ?_ | refine t_then_exit ?_ | refine t_block_eq rfl ?_)) | refine c_exit ?_ | refine c_ret ?_ | (refine i_cond ?_; (refine c_cf rfl (by (exact decide_eq_false (by omega))) ?_))))
    exact t_hp (hp' := []) (fun w h => h.psub (by first | ((repeat (first | exact PSub.nil | exact Ext.head | apply Ext.tail | apply PSub.cons)); done) | fail)) (t_ret1 Try.results17 rfl ⟨rfl, rfl⟩)
theorem gok_new {ls : List LC} (h : ∀ x ∈ ls, x.n ≤ 1000) : GOk (newG ls) := fun s hs => by
  simp only [newG, List.mem_map] at hs
  obtain ⟨x, hx, rfl⟩ := hs
  exact ⟨Nat.zero_le _, h x hx⟩
theorem plok_new {ls : List LC} {g : GaV} (hP : g.P = plL 0 ls) (hS : absG g.xs = newG ls) : PlOk g.P g.xs.length := fun t a k h => by
  have hl : g.xs.length = ls.length := by
    have := congrArg List.length hS
    simpa [absG, newG] using this
  rw [hP] at h
  exact plL_lt (n := g.xs.length) 0 ls t a k (by omega) h
theorem plok_step {P : List (Option (Nat × Nat))} {xs xs' : List OpV} (h : PlOk P xs.length) (he : xs'.length = xs.length) : PlOk P xs'.length := by rw [he]; exact h
theorem absG_len (xs : List OpV) : (absG xs).length = xs.length := by simp [absG]
/-- What Take leaves, in full. -/
def GTook (p : Nat) (P : List (Option (Nat × Nat))) (r : List GL × Option (Nat × Bool × List (List Int))) (v : Value) (B : List Asn) : Prop :=
  ∃ g' As cs vs, v = .tuple #[.agg #[.int .i64 (sI r.2), .bool (sL r.2), .slice As (sB r.2).length cs], .bool r.2.isSome] ∧ B = [gaA p g', partA ⟨.slice As (sB r.2).length cs, vs, sB r.2⟩] ∧ g'.P = P ∧ absG g'.xs = r.1 ∧ (sB r.2).length ≤ cs ∧ cs ≤ maxLen ∧ GOk (absG g'.xs) ∧ PlOk g'.P g'.xs.length
theorem gtook_spec {p : Nat} {g : GaV} {w : World} (hA : Hold [gaA p g] w) (hP : PlOk g.P g.xs.length) (hG : GOk (absG g.xs)) (kind code : Nat) (hkd : kind ≤ 255) (hc : code ≤ 255) (B : Option Addr) (k cb : Nat) (b : List Int) (hr : Ro (fps [gaA p g]) w (roB B k b)) (hk : k ≤ 1000000) :
    Calls Try.prog 15 #[.pointer (some ⟨p, 0, none⟩), .agg #[.int .u8 kind, .int .u8 code, .slice B k cb]] w (Ret w [gaA p g] (GTook p g.P (takeG g.P (absG g.xs) kind code b))) :=
  (gtake_spec hA hP hG kind code hkd hc B k cb b hr hk).mono fun e w' ⟨v, Bs, he, ⟨g', ⟨sv, vs, bs⟩, hv, hB, h1, h2, h3⟩, hst⟩ => by
    dsimp only at h3 hv
    subst h3
    rw [hB] at hst
    obtain ⟨As, cs, e1, e2, e3, -⟩ := part_v (y := ⟨sv, vs, sB (takeG g.P (absG g.xs) kind code b).2⟩) (hst.get (i := 1) rfl)
    dsimp only at e1 e2
    subst e1
    have h4 : GOk (absG g'.xs) := by rw [h2]; exact hG.take
    have h5 : PlOk g'.P g'.xs.length := by rw [h1, ← absG_len, h2, length_takeG, absG_len]; exact hP
    exact ⟨v, _, he, ⟨g', As, cs, vs, hv, rfl, h1, h2, e2, e3, h4, h5⟩, hst⟩

def shL (b : Nat) : LC := ⟨0, some ⟨b, 0, none⟩, 2, 2, false, 0, 0, 0, false, false⟩
theorem lc_blk {w : World} {b : Nat} {x : LC} (h : (blk b (lcC x) 45).C w) (hx : x.n ≤ x.c ∧ x.c ≤ maxLen) : InS (fps []) w 8 InLC (some ⟨b, 0, none⟩) 1 [x] :=
  InS.blk (xs := [x]) [lcC x] (by rw [List.flatten_cons, List.flatten_nil, List.append_nil]; exact Ro.empty h) rfl (fun r hr => by simp at hr; subst hr; rfl) (fun i r y hr hy => by
    cases i with
    | zero => simp at hr hy; subst hr hy; exact ⟨rfl, hx⟩
    | succ i => simp at hr)
theorem b1_blk2 {w : World} {b : Nat} {A0 A1 : Option Addr} {l0 l1 : List Int} (h : (blk b [.slice A0 l0.length l0.length, .slice A1 l1.length l1.length] 30).C w) (h0 : Ro (fps []) w (roB A0 l0.length l0)) (h1 : Ro (fps []) w (roB A1 l1.length l1)) (hl0 : l0.length ≤ 1000 := by decide) (hl1 : l1.length ≤ 1000 := by decide) : InS (fps []) w 1 (InB1 (fps []) w) (some ⟨b, 0, none⟩) 2 [l0, l1] :=
  InS.blk (xs := [l0, l1]) [[.slice A0 l0.length l0.length], [.slice A1 l1.length l1.length]] (by simpa using Ro.empty h) rfl (fun r hr => by simp at hr; rcases hr with rfl | rfl <;> rfl) (fun i r y hr hy => by
    have hmx : maxLen = 2 ^ 63 - 1 := rfl
    match i, hr, hy with
    | 0, hr, hy => simp at hr hy; subst hr hy; exact ⟨A0, _, rfl, h0, Nat.le_refl _, by omega⟩
    | 1, hr, hy => simp at hr hy; subst hr hy; exact ⟨A1, _, rfl, h1, Nat.le_refl _, by omega⟩
    | i + 2, hr, hy => simp at hr)
theorem ro_nil (w : World) (A : List Asn) : Ro (fps A) w (roB none 0 []) := ⟨(roB_nil w).is, fun b hb => by
  unfold roB at hb
  simp at hb⟩

set_option maxHeartbeats 8000000 in
theorem shown19_spec (w : World) : Calls Try.prog 11 #[] w (Ret w [] fun v B => v = .bool true ∧ B = []) := by
  refine enter (vs := []) Try.func11 rfl Try.ntmps11 rfl (Hold.nil w) ?_
  have hmx : maxLen = 2 ^ 63 - 1 := rfl
  (repeat (first | (refine i_dst ?_; ((refine i_assign ?_; refine l_q rfl rfl rfl (q_assign rfl) ?_))) | refine d_seq ?_ | refine c_region ?_ | refine l_nil ?_ | (refine i_q ?_; (refine d_then ?_))))
  refine l_make (l := [.slice none 0 0, .slice none 0 0]) rfl rfl rfl (fun w => run_makeN (m := 2) tab rfl rfl rfl (by decide) (by decide) w) (fun g8 => ?_)
  (repeat ((refine i_dst ?_; (first | (refine i_bldS ?_; refine l_bldS tab rfl rfl rfl rfl (by first | exact CellsOf.agg | exact CellsOf.one rfl) (by first | ((repeat (first | exact RepR.zero | exact AppR.nil | apply RepR.succ | apply AppR.cons)); done) | fail) (by first | ((repeat (first | exact FillR.nil | exact LSets.nil | exact LSet.zero | exact CellsOf.agg | exact rfl | exact CellsOf.one rfl | apply FillR.cons | apply LSets.cons | apply LSet.succ)); done) | fail) (fun w => by kernel_rfl) (fun _ => ?_)) | (refine l_q rfl rfl rfl (by ((apply iq_bld; ((exact q_bld tab rfl rfl rfl (by first | ((repeat (first | exact FillR.nil | exact LSets.nil | exact LSet.zero | exact CellsOf.agg | exact rfl | exact CellsOf.one rfl | apply FillR.cons | apply LSets.cons | apply LSet.succ)); done) | fail) (fun w => by kernel_rfl)))))) ?_)))))
  rename_i g10
  (refine l_call0 rfl rfl Try.func13 rfl (by decide) (fun w' h => gnew_spec _ 1 1 [shL g8] w' (lc_blk (h.mem (X := blk g10 [.int .i64 0, .slice (some ⟨g8, 0, none⟩) 2 2, .bool false, .int .u8 0, .int .u8 0, .int .u8 0, .bool false, .bool false] 45) (by first | ((repeat (first | exact List.Mem.head _ | apply List.Mem.tail)); done) | fail)) ⟨by show 2 ≤ 2; omega, by show 2 ≤ maxLen; omega⟩) (by omega) (by omega) (by omega) (fun x hx => by simp at hx; subst hx; show 2 ≤ 1000; omega)) (fun v B hv => ?_); obtain ⟨p, g, rfl, rfl, hP, hS⟩ := hv)
  have hPl := plok_new hP hS
  have hG0 : GOk (absG g.xs) := by rw [hS]; exact gok_new (fun x hx => by simp at hx; subst hx; show 2 ≤ 1000; omega)
  have hP' : g.P = [some (0, 0), some (0, 1)] := hP
  have hS' : absG g.xs = [⟨2, [], false⟩] := hS
  clear hP hS
  (repeat (first | (refine i_dst ?_; (first | (refine i_move ?_; refine l_q rfl rfl rfl (q_move rfl) ?_) | (refine i_assign ?_; refine l_q rfl rfl rfl (q_assign rfl) ?_) | (refine l_q rfl rfl rfl (by ((apply iq_bld; ((exact q_bld tab rfl rfl rfl (by first | ((repeat (first | exact FillR.nil | exact LSets.nil | exact LSet.zero | exact CellsOf.agg | exact rfl | exact CellsOf.one rfl | apply FillR.cons | apply LSets.cons | apply LSet.succ)); done) | fail) (fun w => by kernel_rfl)))))) ?_))) | refine d_seq ?_ | refine c_region ?_ | refine l_nil ?_ | (refine i_q ?_; (refine d_then ?_))))
  (refine l_call1 (X := gaA p g) (by first | ((repeat (first | exact Ext.head | apply Ext.tail)); done) | fail) rfl rfl Try.func15 rfl (by decide) (fun w' h => gtook_spec h.split hPl hG0 4 1 (by omega) (by omega) none 0 0 [] (ro_nil _ _) (by omega)) (fun v B hv => ?_); obtain ⟨g1, As1, cs1, vs1, rfl, rfl, hP1, hS1, -, -, hG1, hPl1⟩ := hv)
  have e1 : takeG g.P (absG g.xs) 4 1 [] = ([⟨2, [], false⟩], none) := by rw [hP', hS']; rfl
  rw [e1] at hS1 ⊢
  rw [hP'] at hP1
  dsimp only [sI, sL, sB, Option.isSome, List.length] at hS1 ⊢
  clear hPl hG0 e1
  (repeat (first | (refine i_dst ?_; (first | (refine i_move ?_; refine l_q rfl rfl rfl (q_move rfl) ?_) | (refine i_assign ?_; refine l_q rfl rfl rfl (q_assign rfl) ?_) | (refine i_alloc ?_; (refine l_allocA tab rfl rfl (fun _ => ?_))) | (refine i_bldS ?_; refine l_bldS tab rfl rfl rfl rfl (by first | exact CellsOf.agg | exact CellsOf.one rfl) (by first | ((repeat (first | exact RepR.zero | exact AppR.nil | apply RepR.succ | apply AppR.cons)); done) | fail) (by first | ((repeat (first | exact FillR.nil | exact LSets.nil | exact LSet.zero | exact CellsOf.agg | exact rfl | exact CellsOf.one rfl | apply FillR.cons | apply LSets.cons | apply LSet.succ)); done) | fail) (fun w => by kernel_rfl) (fun _ => ?_)) | (refine l_q rfl rfl rfl (by (first | exact q_extract rfl rfl | (apply iq_bld; ((exact q_bld tab rfl rfl rfl (by first | ((repeat (first | exact FillR.nil | exact LSets.nil | exact LSet.zero | exact CellsOf.agg | exact rfl | exact CellsOf.one rfl | apply FillR.cons | apply LSets.cons | apply LSet.succ)); done) | fail) (fun w => by kernel_rfl)))))) ?_))) | refine d_seq ?_ | refine c_region ?_ | refine l_nil ?_ | (refine i_q ?_; (refine d_then ?_)) | (refine i_store ?_; ((refine l_setN tab rfl rfl rfl rfl (List.cons_ne_nil _ _) rfl (by first | ((repeat (first | exact Upd.head | apply Upd.tail)); done) | fail) (by first | ((repeat (first | exact LSets.nil | exact LSet.zero | apply LSets.cons | apply LSet.succ)); done) | fail) ?_)))))
  rename_i g20
  (refine l_call1 (X := gaA p g1) (by first | ((repeat (first | exact Ext.head | apply Ext.tail)); done) | fail) rfl rfl Try.func15 rfl (by decide) (fun w' h => gtook_spec h.split hPl1 hG1 4 0 (by omega) (by omega) (some ⟨g20, 0, none⟩) 1 1 [5] (Ro.blkB (l := [5]) (h.roHp (A := [gaA p g1]) (Y := blk g20 [.int .u8 5] 5) (by first | ((repeat (first | exact List.Mem.head _ | apply List.Mem.tail)); done) | fail)) (oct1 (by omega))) (by omega)) (fun v B hv => ?_); obtain ⟨g2, As2, cs2, vs2, rfl, rfl, hP2, hS2, -, -, hG2, hPl2⟩ := hv)
  have e2 : takeG g1.P (absG g1.xs) 4 0 [5] = ([⟨2, [[5]], false⟩], none) := by rw [hP1, hS1]; rfl
  rw [e2] at hS2 ⊢
  rw [hP1] at hP2
  dsimp only [sI, sL, sB, Option.isSome, List.length] at hS2 ⊢
  clear hPl1 hG1 e2
  (repeat (first | (refine i_dst ?_; (first | (refine i_move ?_; refine l_q rfl rfl rfl (q_move rfl) ?_) | (refine i_assign ?_; refine l_q rfl rfl rfl (q_assign rfl) ?_) | (refine i_alloc ?_; (refine l_allocA tab rfl rfl (fun _ => ?_))) | (refine i_bldS ?_; refine l_bldS tab rfl rfl rfl rfl (by first | exact CellsOf.agg | exact CellsOf.one rfl) (by first | ((repeat (first | exact RepR.zero | exact AppR.nil | apply RepR.succ | apply AppR.cons)); done) | fail) (by first | ((repeat (first | exact FillR.nil | exact LSets.nil | exact LSet.zero | exact CellsOf.agg | exact rfl | exact CellsOf.one rfl | apply FillR.cons | apply LSets.cons | apply LSet.succ)); done) | fail) (fun w => by kernel_rfl) (fun _ => ?_)) | (refine l_q rfl rfl rfl (by (first | exact q_extract rfl rfl | (apply iq_bld; ((exact q_bld tab rfl rfl rfl (by first | ((repeat (first | exact FillR.nil | exact LSets.nil | exact LSet.zero | exact CellsOf.agg | exact rfl | exact CellsOf.one rfl | apply FillR.cons | apply LSets.cons | apply LSet.succ)); done) | fail) (fun w => by kernel_rfl)))))) ?_))) | refine d_seq ?_ | refine c_region ?_ | refine l_nil ?_ | (refine i_q ?_; (refine d_then ?_)) | (refine i_store ?_; ((refine l_setN tab rfl rfl rfl rfl (List.cons_ne_nil _ _) rfl (by first | ((repeat (first | exact Upd.head | apply Upd.tail)); done) | fail) (by first | ((repeat (first | exact LSets.nil | exact LSet.zero | apply LSets.cons | apply LSet.succ)); done) | fail) ?_)))))
  rename_i g27
  (refine l_call1 (X := gaA p g2) (by first | ((repeat (first | exact Ext.head | apply Ext.tail)); done) | fail) rfl rfl Try.func15 rfl (by decide) (fun w' h => gtook_spec h.split hPl2 hG2 4 1 (by omega) (by omega) (some ⟨g27, 0, none⟩) 1 1 [6] (Ro.blkB (l := [6]) (h.roHp (A := [gaA p g2]) (Y := blk g27 [.int .u8 6] 5) (by first | ((repeat (first | exact List.Mem.head _ | apply List.Mem.tail)); done) | fail)) (oct1 (by omega))) (by omega)) (fun v B hv => ?_); obtain ⟨g3, As3, cs3, vs3, rfl, rfl, -, -, -, -, -, -⟩ := hv)
  have e3 : takeG g2.P (absG g2.xs) 4 1 [6] = ([⟨2, [], false⟩], some (0, false, [[5], [6]])) := by rw [hP2, hS2]; rfl
  rw [e3]
  dsimp only [sI, sL, sB, Option.isSome, List.length]
  clear e3 hPl2 hG2
  (repeat (first | (refine i_dst ?_; (first | (refine i_move ?_; refine l_q rfl rfl rfl (q_move rfl) ?_) | (refine i_assign ?_; refine l_q rfl rfl rfl (q_assign rfl) ?_) | (refine i_load ?_; refine l_q rfl rfl rfl (by ((exact q_ldN tab rfl rfl rfl rfl (by first | ((repeat (first | exact List.Mem.head _ | apply List.Mem.tail)); done) | fail) (by first | ((repeat (first | exact TakeR.nil | apply TakeR.cons | apply CutR.zero | apply CutR.skip)); done) | fail)))) ?_) | (refine i_alloc ?_; (refine l_allocA tab rfl rfl (fun _ => ?_))) | (refine i_bldS ?_; refine l_bldS tab rfl rfl rfl rfl (by first | exact CellsOf.agg | exact CellsOf.one rfl) (by first | ((repeat (first | exact RepR.zero | exact AppR.nil | apply RepR.succ | apply AppR.cons)); done) | fail) (by first | ((repeat (first | exact FillR.nil | exact LSets.nil | exact LSet.zero | exact CellsOf.agg | exact rfl | exact CellsOf.one rfl | apply FillR.cons | apply LSets.cons | apply LSet.succ)); done) | fail) (fun w => by kernel_rfl) (fun _ => ?_)) | (refine l_q rfl rfl rfl (by (first | exact q_extract rfl rfl | exact q_not rfl | exact q_pick_t rfl rfl | (apply iq_bld; ((exact q_bld tab rfl rfl rfl (by first | ((repeat (first | exact FillR.nil | exact LSets.nil | exact LSet.zero | exact CellsOf.agg | exact rfl | exact CellsOf.one rfl | apply FillR.cons | apply LSets.cons | apply LSet.succ)); done) | fail) (fun w => by kernel_rfl)))))) ?_))) | refine d_seq ?_ | refine c_region ?_ | refine l_nil ?_ | (refine i_q ?_; (refine d_then ?_)) | (refine i_guard ?_; (refine l_gt rfl rfl rfl ?_)) | (refine i_store ?_; ((refine l_setN tab rfl rfl rfl rfl (List.cons_ne_nil _ _) rfl (by first | ((repeat (first | exact Upd.head | apply Upd.tail)); done) | fail) (by first | ((repeat (first | exact LSets.nil | exact LSet.zero | apply LSets.cons | apply LSet.succ)); done) | fail) ?_)))))
  rename_i g42 g43 g44 g45
  (refine l_call0 rfl rfl Try.func17 rfl (by decide) (fun w' h => same19_spec (n := 2) (c := cs3) (xs := [[5], [6]]) 0 false (parts_in (y := ⟨.slice As3 2 cs3, vs3, [[5], [6]]⟩) rfl (Ro.empty (h.mem (X := partA ⟨.slice As3 2 cs3, vs3, [[5], [6]]⟩) (by first | ((repeat (first | exact List.Mem.head _ | apply List.Mem.tail)); done) | fail)))) (b1_blk2 (l0 := [5]) (l1 := [6]) (h.mem (X := blk g45 _ _) (by first | ((repeat (first | exact List.Mem.head _ | apply List.Mem.tail)); done) | fail)) (Ro.blkB (l := [5]) (Ro.empty (h.mem (X := blk g43 [.int .u8 5] 5) (by first | ((repeat (first | exact List.Mem.head _ | apply List.Mem.tail)); done) | fail))) (oct1 (by omega))) (Ro.blkB (l := [6]) (Ro.empty (h.mem (X := blk g44 [.int .u8 6] 5) (by first | ((repeat (first | exact List.Mem.head _ | apply List.Mem.tail)); done) | fail))) (oct1 (by omega)))) (by omega)) (fun v B hv => ?_); obtain ⟨rfl, rfl⟩ := hv)
  (repeat (first | (refine i_dst ?_; (first | (refine i_assign ?_; refine l_q rfl rfl rfl (q_assign rfl) ?_) | refine l_q rfl rfl rfl (by (exact q_pick_t rfl rfl)) ?_)) | refine l_nil ?_ | (refine i_q ?_; (refine d_then ?_)) | refine c_ret ?_))
  exact t_hp (hp' := []) (fun w h => h.psub (by first | ((repeat (first | exact PSub.nil | exact Ext.head | apply Ext.tail | apply PSub.cons)); done) | fail)) (t_ret1 Try.results11 rfl ⟨rfl, rfl⟩)
end Go.Proofs.Ytidekbijkknlmaa

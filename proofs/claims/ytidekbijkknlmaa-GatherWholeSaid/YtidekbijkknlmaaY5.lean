/-
  Layer 19: the document's answer (ref19): New, find, walked.
-/
import Derived.Test.YtidekbijkknlmaaY4
set_option linter.unusedVariables false
set_option maxRecDepth 100000
namespace Go.Proofs.Ytidekbijkknlmaa
open Go.RowKit
attribute [local irreducible] TL TC TQ TK TO Qt TA
/-- The document's Gather: how many, set, what came, lost. -/
structure RG where
  mv : Value
  sv : Value
  gv : Value
  tv : Value
  ms : List Nat
  ss : List Bool
  ps : List PartV
  ts : List Bool
def rgL (q : Nat) (g : RG) : List Asn := [blk q [g.mv, g.sv, g.gv, g.tv] 105, row 3 1 g.mv g.ms.length (g.ms.map fun n : Nat => .int .i64 n), row 4 1 g.sv g.ss.length (g.ss.map .bool), row 33 1 g.gv g.ps.length (g.ps.map (·.v)), starL (g.ps.map partA), row 4 1 g.tv g.ts.length (g.ts.map .bool)]
def rgA (q : Nat) (g : RG) : Asn := starL (rgL q g)
def absR : List Nat → List PartV → List Bool → List GL
  | m :: ms, p :: ps, t :: ts => ⟨m, p.bs, t⟩ :: absR ms ps ts
  | _, _, _ => []
structure RGOk (g : RG) (ls : List LC) (S : List GL) : Prop where
  ms : g.ms = ls.map (·.n)
  ss : g.ss = ls.map (·.stim)
  ps : g.ps.length = ls.length
  ts : g.ts.length = ls.length
  ab : absR g.ms g.ps g.ts = S
theorem rowInt : RowT tab 102 3 1 8 (.int .i64 0) := ⟨rfl, rfl, rfl, by decide⟩
theorem rowBool : RowT tab 41 4 1 1 (.bool false) := ⟨rfl, rfl, rfl, by decide⟩
theorem rowBBB : RowT tab 103 33 1 24 (.slice none 0 0) := ⟨rfl, rfl, rfl, by decide⟩
section
variable {S : Nat → Prop} {w0 w : World} {q : Nat} {g : RG} {F : List Asn}
theorem rg_open (h : St S w0 (rgA q g :: F) w) : St S w0 (rgL q g ++ F) w := st_unstar (l := rgL q g) h
theorem rg_shut (h : St S w0 (rgL q g ++ F) w) : St S w0 (rgA q g :: F) w := st_packs2 (Xs := rgL q g) h
theorem Ro.rgBlk (h : Ro S w0 (rgA q g)) : Ro S w0 (blk q [g.mv, g.sv, g.gv, g.tv] 105) := Ro.star h (i := 0) rfl
theorem Ro.rgMs (h : Ro S w0 (rgA q g)) : Ro S w0 (row 3 1 g.mv g.ms.length (g.ms.map fun n : Nat => .int .i64 n)) := Ro.star h (i := 1) rfl
end
theorem absR_new : ∀ (ls : List LC), absR (ls.map (·.n)) (ls.map fun _ => nilP) (ls.map fun _ => false) = newG ls
  | [] => rfl
  | x :: l => by
    simp only [List.map_cons, absR, newG]
    rw [absR_new l]
    rfl
theorem parts_rep (ls : List LC) : (ls.map fun _ => nilP).map partA = List.replicate ls.length (partA nilP) := by
  induction ls with
  | nil => rfl
  | cons x l ih => rw [List.map_cons, List.map_cons, ih]; rfl
attribute [local irreducible] blk row bytesA starL memA segA roB
attribute [local irreducible] mapA partA gaA rgA
set_option maxHeartbeats 8000000 in
theorem rgnew_spec (A : Option Addr) (n c : Nat) (ls : List LC) (w : World) (hls : InS (fps []) w 8 InLC A n ls) (hnc : n ≤ c) (hcm : c ≤ maxLen) (hn : n ≤ 1000) :
    Calls Try.prog 14 #[.slice A n c] w (Ret w [] fun v B => ∃ q g, v = .pointer (some ⟨q, 0, none⟩) ∧ B = [rgA q g] ∧ RGOk g ls (newG ls)) := by
  have hlen := hls.len
  refine enter (vs := [.slice A n c]) Try.func14 rfl Try.ntmps14 rfl (Hold.nil w) ?_
  have hmx : maxLen = 2 ^ 63 - 1 := rfl
  (repeat (first | (refine i_dst ?_; (first | (refine i_assign ?_; refine l_q rfl rfl rfl (q_assign rfl) ?_) | (refine i_box ?_; (refine l_boxA rfl rfl (fun _ => ?_))) | (refine l_q rfl rfl rfl (by ((apply iq_bld; ((exact q_bld tab rfl rfl rfl (by first | ((repeat (first | exact FillR.nil | exact LSets.nil | exact LSet.zero | exact CellsOf.agg | exact rfl | exact CellsOf.one rfl | apply FillR.cons | apply LSets.cons | apply LSet.succ)); done) | fail) (fun w => by kernel_rfl)))))) ?_))) | refine d_seq ?_ | refine c_region ?_ | refine l_nil ?_ | refine c_block ?_ | (refine i_q ?_; (refine d_then ?_))))
  rename_i q
  refine d_loop (T := Nat × Value × Value × Value × Value) [0, 3] (fun t => [(4, .int .i64 t.1)]) [] (fun t => [blk q [t.2.1, t.2.2.1, t.2.2.2.1, t.2.2.2.2] 105, row 3 1 t.2.1 t.1 ((ls.take t.1).map fun x => .int .i64 x.n), row 4 1 t.2.2.1 t.1 ((ls.take t.1).map fun x => .bool x.stim), row 33 1 t.2.2.2.1 t.1 ((ls.take t.1).map fun _ => .slice none 0 0), row 4 1 t.2.2.2.2 t.1 ((ls.take t.1).map fun _ => .bool false)]) (fun t => t.1 ≤ n) (fun t => n - t.1) (0, .slice none 0 0, .slice none 0 0, .slice none 0 0, .slice none 0 0) (by first | ((repeat (first | exact Pick.nil | exact rfl | apply Pick.cons)); done) | fail) (Nat.zero_le _) (by first | ((repeat (first | exact trivial | exact rfl | apply Sub.cons | exact look_int rfl (by omega) | exact look_int rfl (by simp) | exact look_int rfl (by simp; omega))); done) | fail) (fun w h => (st_nil (st_nil (st_nil (st_nil h 4 1) 33 1) 4 1) 3 1).psub (by first | ((repeat (first | exact PSub.nil | exact Ext.head | apply Ext.tail | apply PSub.cons)); done) | fail)) ?_
  rintro ⟨i, mv, sv, gv, tv⟩ hi
  dsimp only at hi ⊢
  refine c_fact (p := (∃ Ao co, mv = .slice Ao i co ∧ i ≤ co ∧ co ≤ maxLen) ∧ (∃ Ao co, sv = .slice Ao i co ∧ i ≤ co ∧ co ≤ maxLen) ∧ (∃ Ao co, gv = .slice Ao i co ∧ i ≤ co ∧ co ≤ maxLen) ∧ (∃ Ao co, tv = .slice Ao i co ∧ i ≤ co ∧ co ≤ maxLen)) (fun w h => ?_) ?_
  · refine ⟨?_, ?_, ?_, ?_⟩
    · obtain ⟨Ao, co, e1, e2, e3, -⟩ := row_slice (h.get (i := 1) rfl); exact ⟨Ao, co, e1, e2, e3⟩
    · obtain ⟨Ao, co, e1, e2, e3, -⟩ := row_slice (h.get (i := 2) rfl); exact ⟨Ao, co, e1, e2, e3⟩
    · obtain ⟨Ao, co, e1, e2, e3, -⟩ := row_slice (h.get (i := 3) rfl); exact ⟨Ao, co, e1, e2, e3⟩
    · obtain ⟨Ao, co, e1, e2, e3, -⟩ := row_slice (h.get (i := 4) rfl); exact ⟨Ao, co, e1, e2, e3⟩
  rintro ⟨⟨Am, cm, rfl, hm1, hm2⟩, ⟨As, cs, rfl, hs1, hs2⟩, ⟨Ag, cg, rfl, hg1, hg2⟩, ⟨At_, ct_, rfl, hd1, hd2⟩⟩
  by_cases hlt : i < n
  · obtain ⟨⟨first, At, nt, ct, stim, ev, pre, pri, on, ch⟩, hl⟩ : ∃ l, ls[i]? = some l := ⟨_, List.getElem?_eq_getElem (by omega)⟩
    obtain ⟨bA, oA, r, rfl, hrl, ⟨rfl, ht1, ht2⟩, hcell⟩ := hls.get (by omega) hl
    dsimp only at ht1 ht2
    unfold lcC at hcell
    dsimp only at hcell
    have htake : ls.take (i + 1) = ls.take i ++ [⟨first, At, nt, ct, stim, ev, pre, pri, on, ch⟩] := by
      rw [List.take_add_one, hl]; rfl
    have ei : (i : Int).toNat = i := by omega
    have hx1 : ∀ hp w', St (fps []) w hp w' → w'.cell? ⟨bA, oA + (i : Int).toNat * 8 + 1, none⟩ = some (.slice At nt ct) := fun hp w' h => by rw [ei]; exact (hcell hp w' h) 1 _ rfl
    have hx2 : ∀ hp w', St (fps []) w hp w' → w'.cell? ⟨bA, oA + (i : Int).toNat * 8 + 2, none⟩ = some (.bool stim) := fun hp w' h => by rw [ei]; exact (hcell hp w' h) 2 _ rfl
    clear hcell
    (repeat (first | (refine i_dst ?_; (first | (refine i_move ?_; refine l_q rfl rfl rfl (q_move rfl) ?_) | (refine i_bin ?_; refine l_q rfl rfl rfl (by (exact q_lss rfl rfl)) ?_) | (refine i_blt ?_; refine l_q rfl rfl rfl (by (exact q_len tab rfl rfl)) ?_))) | refine d_seq ?_ | refine c_region ?_ | refine l_nil ?_ | refine c_block ?_ | (refine i_q ?_; (refine d_then ?_)) | refine c_skip ?_ | (refine i_cond ?_; (refine c_ct rfl (by (exact decide_eq_true (by omega))) ?_))))
    (refine a_beginE mixed [blk q [.slice Am i cm, .slice As i cs, .slice Ag i cg, .slice At_ i ct_] 105] [] 16 15 rfl (fun w h => h.subl (by first | ((repeat (first | exact SubL.nil | apply SubL.keep | apply SubL.skip)); done) | fail)) (fun w h => h.subl (by first | ((repeat (first | exact SubL.nil | apply SubL.keep | apply SubL.skip)); done) | fail)) ?_)
    ((refine a_q 0 rfl rfl rfl rfl rfl (by decide +kernel) (q_move rfl) ?_; refine a_q 1 rfl rfl rfl rfl rfl (by decide +kernel) (q_move rfl) ?_; refine a_q 2 rfl rfl rfl rfl rfl (by decide +kernel) (by ((apply iq_nck; (exact q_nilck rfl)))) ?_; refine a_q 3 rfl rfl rfl rfl rfl (by decide +kernel) (by ((apply iq_fld; (exact q_fieldAddr tab rfl rfl rfl rfl rfl rfl rfl)))) ?_; ((refine a_y 4 rfl rfl rfl rfl rfl (by decide +kernel) (by ((exact q_ld1 tab rfl rfl rfl (by first | ((repeat (first | exact List.Mem.head _ | apply List.Mem.tail)); done) | fail) (by (rfl))))) ?_)); refine a_q 5 rfl rfl rfl rfl rfl (by decide +kernel) (q_move rfl) ?_; refine a_q 6 rfl rfl rfl rfl rfl (by decide +kernel) (q_move rfl) ?_; refine a_q 7 rfl rfl rfl rfl rfl (by decide +kernel) (by (exact q_indexAddr tab rfl rfl rfl rfl (by omega))) ?_; refine a_q 8 rfl rfl rfl rfl rfl (by decide +kernel) (by ((apply iq_fld; (exact q_fieldAddr tab rfl rfl rfl rfl rfl rfl rfl)))) ?_; (refine a_q 9 rfl rfl rfl rfl rfl (by decide +kernel) (by (exact q_ldc tab rfl rfl rfl (by assumption))) ?_); refine a_q 10 rfl rfl rfl rfl rfl (by decide +kernel) (by (exact q_len tab rfl rfl)) ?_))
    (refine a_e 11 rfl (by decide +kernel) rfl (fun K hK => e_bldS tab rfl rfl rfl rfl (by first | exact CellsOf.agg | exact CellsOf.one rfl) (by first | ((repeat (first | exact RepR.zero | exact AppR.nil | apply RepR.succ | apply AppR.cons)); done) | fail) (by first | ((repeat (first | exact FillR.nil | exact LSets.nil | exact LSet.zero | exact CellsOf.agg | exact rfl | exact CellsOf.one rfl | apply FillR.cons | apply LSets.cons | apply LSet.succ)); done) | fail) (fun w => by kernel_rfl) (fun g11 => hK _ _ (fun w h => h.subl (by first | ((repeat (first | exact SubL.nil | apply SubL.keep | apply SubL.skip)); done) | fail)) ?_)); clear hK)
    (skip)
    (refine a_e 12 rfl (by decide +kernel) rfl (fun K hK => e_app tab rfl rfl rfl rowInt (by first | ((repeat (first | exact Ext.head | apply Ext.tail)); done) | fail) (news := [.int .i64 nt]) (fun w h => SrcAt.blk (h.mem (by first | ((repeat (first | exact List.Mem.head _ | apply List.Mem.tail)); done) | fail)) rfl) (by simp [Value.oneCell']) (by omega) (by omega) (fun A3 c3 hA1 hA2 => hK _ _ (fun w h => h.subl (by first | ((repeat (first | exact SubL.nil | apply SubL.keep | apply SubL.skip)); done) | fail)) ?_)); clear hK)
    ((refine a_q 13 rfl rfl rfl rfl rfl (by decide +kernel) (by ((apply iq_nck; (exact q_nilck rfl)))) ?_; refine a_q 14 rfl rfl rfl rfl rfl (by decide +kernel) (by ((apply iq_fld; (exact q_fieldAddr tab rfl rfl rfl rfl rfl rfl rfl)))) ?_))
    (refine a_e 15 rfl (by decide +kernel) rfl (fun K hK => e_set tab rfl rfl rfl rfl (by first | ((repeat (first | exact Upd.head | apply Upd.tail)); done) | fail) (by first | ((repeat (first | exact LSet.zero | apply LSet.succ)); done) | fail) (hK _ _ (fun w h => h.subl (by first | ((repeat (first | exact SubL.nil | apply SubL.keep | apply SubL.skip)); done) | fail)) ?_)); clear hK)
    refine a_done (by decide +kernel) ?_
    (repeat (first | refine d_seq ?_ | (refine i_q ?_; (refine d_then ?_))))
    (refine a_beginE mixed [blk q [.slice A3 (i + 1) c3, .slice As i cs, .slice Ag i cg, .slice At_ i ct_] 105] [] 15 14 rfl (fun w h => h.subl (by first | ((repeat (first | exact SubL.nil | apply SubL.keep | apply SubL.skip)); done) | fail)) (fun w h => h.subl (by first | ((repeat (first | exact SubL.nil | apply SubL.keep | apply SubL.skip)); done) | fail)) ?_)
    ((refine a_q 0 rfl rfl rfl rfl rfl (by decide +kernel) (q_move rfl) ?_; refine a_q 1 rfl rfl rfl rfl rfl (by decide +kernel) (q_move rfl) ?_; refine a_q 2 rfl rfl rfl rfl rfl (by decide +kernel) (by ((apply iq_nck; (exact q_nilck rfl)))) ?_; refine a_q 3 rfl rfl rfl rfl rfl (by decide +kernel) (by ((apply iq_fld; (exact q_fieldAddr tab rfl rfl rfl rfl rfl rfl rfl)))) ?_; ((refine a_y 4 rfl rfl rfl rfl rfl (by decide +kernel) (by ((exact q_ld1 tab rfl rfl rfl (by first | ((repeat (first | exact List.Mem.head _ | apply List.Mem.tail)); done) | fail) (by (rfl))))) ?_)); refine a_q 5 rfl rfl rfl rfl rfl (by decide +kernel) (q_move rfl) ?_; refine a_q 6 rfl rfl rfl rfl rfl (by decide +kernel) (q_move rfl) ?_; refine a_q 7 rfl rfl rfl rfl rfl (by decide +kernel) (by (exact q_indexAddr tab rfl rfl rfl rfl (by omega))) ?_; refine a_q 8 rfl rfl rfl rfl rfl (by decide +kernel) (by ((apply iq_fld; (exact q_fieldAddr tab rfl rfl rfl rfl rfl rfl rfl)))) ?_; (refine a_q 9 rfl rfl rfl rfl rfl (by decide +kernel) (by (exact q_ldc tab rfl rfl rfl (by assumption))) ?_)))
    (refine a_e 10 rfl (by decide +kernel) rfl (fun K hK => e_bldS tab rfl rfl rfl rfl (by first | exact CellsOf.agg | exact CellsOf.one rfl) (by first | ((repeat (first | exact RepR.zero | exact AppR.nil | apply RepR.succ | apply AppR.cons)); done) | fail) (by first | ((repeat (first | exact FillR.nil | exact LSets.nil | exact LSet.zero | exact CellsOf.agg | exact rfl | exact CellsOf.one rfl | apply FillR.cons | apply LSets.cons | apply LSet.succ)); done) | fail) (fun w => by kernel_rfl) (fun g12 => hK _ _ (fun w h => h.subl (by first | ((repeat (first | exact SubL.nil | apply SubL.keep | apply SubL.skip)); done) | fail)) ?_)); clear hK)
    (skip)
    (refine a_e 11 rfl (by decide +kernel) rfl (fun K hK => e_app tab rfl rfl rfl rowBool (by first | ((repeat (first | exact Ext.head | apply Ext.tail)); done) | fail) (news := [.bool stim]) (fun w h => SrcAt.blk (h.mem (by first | ((repeat (first | exact List.Mem.head _ | apply List.Mem.tail)); done) | fail)) rfl) (by simp [Value.oneCell']) (by omega) (by omega) (fun A4 c4 hA1 hA2 => hK _ _ (fun w h => h.subl (by first | ((repeat (first | exact SubL.nil | apply SubL.keep | apply SubL.skip)); done) | fail)) ?_)); clear hK)
    ((refine a_q 12 rfl rfl rfl rfl rfl (by decide +kernel) (by ((apply iq_nck; (exact q_nilck rfl)))) ?_; refine a_q 13 rfl rfl rfl rfl rfl (by decide +kernel) (by ((apply iq_fld; (exact q_fieldAddr tab rfl rfl rfl rfl rfl rfl rfl)))) ?_))
    (refine a_e 14 rfl (by decide +kernel) rfl (fun K hK => e_set tab rfl rfl rfl rfl (by first | ((repeat (first | exact Upd.head | apply Upd.tail)); done) | fail) (by first | ((repeat (first | exact LSet.zero | apply LSet.succ)); done) | fail) (hK _ _ (fun w h => h.subl (by first | ((repeat (first | exact SubL.nil | apply SubL.keep | apply SubL.skip)); done) | fail)) ?_)); clear hK)
    refine a_done (by decide +kernel) ?_
    (repeat (first | (refine i_dst ?_; (first | (refine i_move ?_; refine l_q rfl rfl rfl (q_move rfl) ?_) | (refine i_load ?_; refine l_q rfl rfl rfl (by ((exact q_ld1 tab rfl rfl rfl (by first | ((repeat (first | exact List.Mem.head _ | apply List.Mem.tail)); done) | fail) (by (rfl))))) ?_) | (refine i_bldS ?_; refine l_bldS tab rfl rfl rfl rfl (by first | exact CellsOf.agg | exact CellsOf.one rfl) (by first | ((repeat (first | exact RepR.zero | exact AppR.nil | apply RepR.succ | apply AppR.cons)); done) | fail) (by first | ((repeat (first | exact FillR.nil | exact LSets.nil | exact LSet.zero | exact CellsOf.agg | exact rfl | exact CellsOf.one rfl | apply FillR.cons | apply LSets.cons | apply LSet.succ)); done) | fail) (fun w => by kernel_rfl) (fun _ => ?_)) | (refine l_q rfl rfl rfl (by (first | (apply iq_fld; (exact q_fieldAddr tab rfl rfl rfl rfl rfl rfl rfl)) | (apply iq_nck; (exact q_nilck rfl)))) ?_))) | refine d_seq ?_ | refine c_region ?_ | (refine i_q ?_; (refine d_then ?_))))
    rename_i g47
    (refine l_app tab rfl rfl rfl rowBBB (by first | ((repeat (first | exact Ext.head | apply Ext.tail)); done) | fail) (news := [.slice none 0 0]) (fun w h => SrcAt.blk (h.mem (X := blk g47 _ _) (by first | ((repeat (first | exact List.Mem.head _ | apply List.Mem.tail)); done) | fail)) rfl) (by simp [Value.oneCell']) (by omega) (by omega) (fun A5 c5 hA1 hA2 => ?_))
    (repeat (first | (refine i_dst ?_; (first | (refine i_move ?_; refine l_q rfl rfl rfl (q_move rfl) ?_) | (refine i_load ?_; refine l_q rfl rfl rfl (by ((exact q_ld1 tab rfl rfl rfl (by first | ((repeat (first | exact List.Mem.head _ | apply List.Mem.tail)); done) | fail) (by (rfl))))) ?_) | (refine i_bldS ?_; refine l_bldS tab rfl rfl rfl rfl (by first | exact CellsOf.agg | exact CellsOf.one rfl) (by first | ((repeat (first | exact RepR.zero | exact AppR.nil | apply RepR.succ | apply AppR.cons)); done) | fail) (by first | ((repeat (first | exact FillR.nil | exact LSets.nil | exact LSet.zero | exact CellsOf.agg | exact rfl | exact CellsOf.one rfl | apply FillR.cons | apply LSets.cons | apply LSet.succ)); done) | fail) (fun w => by kernel_rfl) (fun _ => ?_)) | (refine l_q rfl rfl rfl (by (first | (apply iq_fld; (exact q_fieldAddr tab rfl rfl rfl rfl rfl rfl rfl)) | (apply iq_nck; (exact q_nilck rfl)))) ?_))) | refine c_region ?_ | refine l_nil ?_ | (refine i_q ?_; (refine d_then ?_)) | (refine i_store ?_; ((refine l_set tab rfl rfl rfl rfl (by first | ((repeat (first | exact Upd.head | apply Upd.tail)); done) | fail) (by first | ((repeat (first | exact LSet.zero | apply LSet.succ)); done) | fail) ?_)))))
    rename_i g56
    (refine l_app tab rfl rfl rfl rowBool (by first | ((repeat (first | exact Ext.head | apply Ext.tail)); done) | fail) (news := [.bool false]) (fun w h => SrcAt.blk (h.mem (X := blk g56 _ _) (by first | ((repeat (first | exact List.Mem.head _ | apply List.Mem.tail)); done) | fail)) rfl) (by simp [Value.oneCell']) (by omega) (by omega) (fun A6 c6 hA1 hA2 => ?_))
    (repeat (first | (refine i_dst ?_; (first | (refine i_move ?_; refine l_q rfl rfl rfl (q_move rfl) ?_) | (refine i_assign ?_; refine l_q rfl rfl rfl (q_assign rfl) ?_) | (refine i_bin ?_; refine l_q rfl rfl rfl (by (exact q_add rfl rfl (by (exact wr_i64 (by omega))))) ?_) | (refine l_q rfl rfl rfl (by (first | (apply iq_fld; (exact q_fieldAddr tab rfl rfl rfl rfl rfl rfl rfl)) | (apply iq_nck; (exact q_nilck rfl)))) ?_))) | refine c_region ?_ | refine l_nil ?_ | (refine i_q ?_; (first | refine d_then ?_ | refine t_then ?_ | refine t_block ?_)) | (refine i_store ?_; ((refine l_set tab rfl rfl rfl rfl (by first | ((repeat (first | exact Upd.head | apply Upd.tail)); done) | fail) (by first | ((repeat (first | exact LSet.zero | apply LSet.succ)); done) | fail) ?_)))))
    refine k_again (i + 1, .slice A3 (i + 1) c3, .slice A4 (i + 1) c4, .slice A5 (i + 1) c5, .slice A6 (i + 1) c6) (by dsimp only; omega) (by dsimp only; omega) (by first | ((repeat (first | exact trivial | exact rfl | apply Sub.cons | exact look_int rfl (by omega) | exact look_int rfl (by simp) | exact look_int rfl (by simp; omega))); done) | fail) (fun w h => ?_)
    dsimp only
    rw [htake, List.map_append, List.map_append, List.map_append, List.map_append]
    exact h.psub (by first | ((repeat (first | exact PSub.nil | exact Ext.head | apply Ext.tail | apply PSub.cons)); done) | fail)
  · have hin : i = n := by omega
    subst hin
    have htk : ls.take i = ls := List.take_of_length_le (by omega)
    rw [htk]
    (repeat (first | (refine i_dst ?_; (first | (refine i_move ?_; refine l_q rfl rfl rfl (q_move rfl) ?_) | (refine i_assign ?_; refine l_q rfl rfl rfl (q_assign rfl) ?_) | (refine i_bin ?_; refine l_q rfl rfl rfl (by (exact q_lss rfl rfl)) ?_) | (refine i_blt ?_; refine l_q rfl rfl rfl (by (exact q_len tab rfl rfl)) ?_))) | refine d_seq ?_ | refine c_region ?_ | refine l_nil ?_ | (refine i_q ?_; (first | refine d_then ?_ | refine d_then_exit ?_ | refine t_then_exit ?_ | refine t_block_eq rfl ?_)) | refine c_exit ?_ | refine c_ret ?_ | (refine i_cond ?_; ((refine c_cf rfl (by (((first | (simp; done) | fail)))) ?_)))))
    refine t_hp (hp' := [rgA q ⟨.slice Am i cm, .slice As i cs, .slice Ag i cg, .slice At_ i ct_, ls.map (·.n), ls.map (·.stim), ls.map fun _ => nilP, ls.map fun _ => false⟩]) (fun w h => ?_) (t_ret1 Try.results14 rfl ⟨q, _, rfl, rfl, ⟨rfl, rfl, by simp, by simp, absR_new ls⟩⟩)
    refine rg_shut ?_
    unfold rgL
    dsimp only
    simp only [List.map_map, List.length_map, hlen]
    have e1 : ((ls.map fun _ => nilP).map partA) = List.replicate i (partA nilP) := by rw [parts_rep, hlen]
    rw [List.map_map] at e1
    rw [e1]
    exact (st_parts h i).psub (by first | ((repeat (first | exact PSub.nil | exact Ext.head | apply Ext.tail | apply PSub.cons)); done) | fail)
def findM : Nat → List Nat → Int → Int × Int
  | _, [], _ => (-1, 0)
  | i, m :: ms, t => if t < m then (i, t) else findM (i + 1) ms (t - m)

set_option maxHeartbeats 8000000 in
theorem find_spec {q : Nat} {g : RG} {w : World} (hm : Ro (fps []) w (rgA q g)) (hn : g.ms.length ≤ 1000) (hms : ∀ m ∈ g.ms, m ≤ 1000) (t : Int) (ht : 0 ≤ t ∧ t ≤ 255) :
    Calls Try.prog 37 #[.pointer (some ⟨q, 0, none⟩), .int .i64 t] w (Ret w [] fun v B => v = .tuple #[.int .i64 (findM 0 g.ms t).1, .int .i64 (findM 0 g.ms t).2] ∧ B = []) := by
  obtain ⟨Am, cm, hmv, hm1, hm2, -⟩ := row_slice hm.rgMs.is
  have hb := hm.rgBlk
  have hrow := hm.rgMs
  rw [hmv] at hb hrow
  have hrV := hrow.rowV1
  refine enter (vs := [.pointer (some ⟨q, 0, none⟩), .int .i64 t]) Try.func37 rfl Try.ntmps37 rfl (Hold.nil w) ?_
  have hmx : maxLen = 2 ^ 63 - 1 := rfl
  (repeat (first | (refine i_dst ?_; ((refine i_assign ?_; refine l_q rfl rfl rfl (q_assign rfl) ?_))) | refine d_seq ?_ | refine c_region ?_ | refine l_nil ?_ | refine c_block ?_ | (refine i_q ?_; (refine d_then ?_))))
  refine d_loop (T := Nat × Int) [0] (fun y => [(6, .int .i64 y.1), (1, .int .i64 y.2)]) [] (fun _ => []) (fun y => y.1 ≤ g.ms.length ∧ 0 ≤ y.2 ∧ y.2 ≤ 255 ∧ findM y.1 (g.ms.drop y.1) y.2 = findM 0 g.ms t) (fun y => g.ms.length - y.1) (0, t) (by first | ((repeat (first | exact Pick.nil | exact rfl | apply Pick.cons)); done) | fail) ⟨Nat.zero_le _, ht.1, ht.2, rfl⟩ (by first | ((repeat (first | exact trivial | exact rfl | apply Sub.cons | exact look_int rfl (by omega) | exact look_int rfl (by simp) | exact look_int rfl (by simp; omega))); done) | fail) (fun w h => h.psub (by first | ((repeat (first | exact PSub.nil | exact Ext.head | apply Ext.tail | apply PSub.cons)); done) | fail)) ?_
  rintro ⟨i, u⟩ ⟨hi, hu0, hu1, he⟩
  dsimp only at hi hu0 hu1 he ⊢
  by_cases hlt : i < g.ms.length
  · obtain ⟨m, hmi⟩ : ∃ m, g.ms[i]? = some m := ⟨_, List.getElem?_eq_getElem hlt⟩
    have hdr : g.ms.drop i = m :: g.ms.drop (i + 1) := by
      rw [List.drop_eq_getElem_cons hlt]
      rw [List.getElem?_eq_getElem hlt] at hmi
      injection hmi with hmi
      rw [hmi]
    have hm1000 := hms m (List.mem_of_getElem? hmi)
    have hmi' : (g.ms.map fun n : Nat => (Value.int .i64 (n : Int)))[i]? = some (.int .i64 m) := by rw [List.getElem?_map, hmi]; rfl
    rw [hdr, findM] at he
    by_cases hum : u < m
    · rw [if_pos hum] at he
      rw [← he]
      (repeat (first | (refine i_dst ?_; (first | (refine i_move ?_; refine l_q rfl rfl rfl (q_move rfl) ?_) | (refine i_assign ?_; refine l_q rfl rfl rfl (q_assign rfl) ?_) | (refine i_load ?_; refine l_q rfl rfl rfl (by (first | exact q_ldRo tab rfl rfl rfl (by assumption) rfl | exact q_ldS tab rfl rfl rfl (by (exact fun w h => roV_src (h.ro (by assumption)))) (by (assumption)))) ?_) | (refine i_bin ?_; refine l_q rfl rfl rfl (by (exact q_lss rfl rfl)) ?_) | (refine i_blt ?_; refine l_q rfl rfl rfl (by (exact q_len tab rfl rfl)) ?_) | (refine i_ix ?_; refine l_q rfl rfl rfl (by (exact q_ixS1 tab rfl rfl rfl rfl (by (exact fun w h => roV_src (h.ro (by assumption)))) (by first | (with_reducible exact Int.toNat_natCast _) | (with_reducible exact Int.toNat_zero) | (with_reducible exact Int.toNat_one) | rfl) (by (omega)) (by (omega)))) ?_) | (refine l_q rfl rfl rfl (by (first | (apply iq_fld; (exact q_fieldAddr tab rfl rfl rfl rfl rfl rfl rfl)) | (apply iq_nck; (exact q_nilck rfl)))) ?_))) | refine d_seq ?_ | refine c_region ?_ | refine l_nil ?_ | refine c_block ?_ | (refine i_q ?_; (first | refine d_then ?_ | refine d_then_ret ?_ | refine t_then_ret ?_ | refine t_block_ret ?_)) | refine c_skip ?_ | refine c_ret ?_ | (refine i_cond ?_; (refine c_ct rfl (by (exact decide_eq_true (by omega))) ?_))))
      exact t_hp (hp' := []) (fun w h => h.psub (by first | ((repeat (first | exact PSub.nil | exact Ext.head | apply Ext.tail | apply PSub.cons)); done) | fail)) (t_ret2 Try.results37 rfl rfl ⟨rfl, rfl⟩)
    · rw [if_neg hum] at he
      (repeat (first | (refine i_dst ?_; (first | (refine i_move ?_; refine l_q rfl rfl rfl (q_move rfl) ?_) | (refine i_assign ?_; refine l_q rfl rfl rfl (q_assign rfl) ?_) | (refine i_load ?_; refine l_q rfl rfl rfl (by (first | exact q_ldRo tab rfl rfl rfl (by assumption) rfl | exact q_ldS tab rfl rfl rfl (by (exact fun w h => roV_src (h.ro (by assumption)))) (by (assumption)))) ?_) | (refine i_bin ?_; refine l_q rfl rfl rfl (by (first | exact q_lss rfl rfl | exact q_add rfl rfl (by (first | exact wr_i64 (by omega) | rfl)) | exact q_sub rfl rfl (by (exact wr_i64 (by omega))))) ?_) | (refine i_blt ?_; refine l_q rfl rfl rfl (by (exact q_len tab rfl rfl)) ?_) | (refine i_ix ?_; refine l_q rfl rfl rfl (by (exact q_ixS1 tab rfl rfl rfl rfl (by (exact fun w h => roV_src (h.ro (by assumption)))) (by first | (with_reducible exact Int.toNat_natCast _) | (with_reducible exact Int.toNat_zero) | (with_reducible exact Int.toNat_one) | rfl) (by (omega)) (by (omega)))) ?_) | (refine l_q rfl rfl rfl (by (first | (apply iq_fld; (exact q_fieldAddr tab rfl rfl rfl rfl rfl rfl rfl)) | (apply iq_nck; (exact q_nilck rfl)))) ?_))) | refine d_seq ?_ | refine c_region ?_ | refine l_nil ?_ | refine c_block ?_ | (refine i_q ?_; (first | refine d_then ?_ | refine t_then ?_ | refine t_block ?_)) | refine c_skip ?_ | (refine i_cond ?_; (first | refine c_ct rfl (by (exact decide_eq_true (by omega))) ?_ | refine c_cf rfl (by (exact decide_eq_false (by omega))) ?_))))
      exact k_again (i + 1, u - m) ⟨by dsimp only; omega, by dsimp only; omega, by dsimp only; omega, he⟩ (by dsimp only; omega) (by first | ((repeat (first | exact trivial | exact rfl | apply Sub.cons | exact look_int rfl (by omega) | exact look_int rfl (by simp) | exact look_int rfl (by simp; omega))); done) | fail) (fun w h => h.psub (by first | ((repeat (first | exact PSub.nil | exact Ext.head | apply Ext.tail | apply PSub.cons)); done) | fail))
  · have hin : i = g.ms.length := by omega
    have hdr : g.ms.drop i = [] := List.drop_eq_nil_of_le (by omega)
    rw [hdr, findM] at he
    rw [← he]
    (repeat (first | (refine i_dst ?_; (first | (refine i_move ?_; refine l_q rfl rfl rfl (q_move rfl) ?_) | (refine i_assign ?_; refine l_q rfl rfl rfl (q_assign rfl) ?_) | (refine i_load ?_; refine l_q rfl rfl rfl (by (exact q_ldRo tab rfl rfl rfl (by assumption) rfl)) ?_) | (refine i_bin ?_; refine l_q rfl rfl rfl (by (exact q_lss rfl rfl)) ?_) | (refine i_blt ?_; refine l_q rfl rfl rfl (by (exact q_len tab rfl rfl)) ?_) | (refine l_q rfl rfl rfl (by (first | (apply iq_fld; (exact q_fieldAddr tab rfl rfl rfl rfl rfl rfl rfl)) | (apply iq_nck; (exact q_nilck rfl)))) ?_))) | refine d_seq ?_ | refine c_region ?_ | refine l_nil ?_ | (refine i_q ?_; (first | refine d_then ?_ | refine d_then_exit ?_ | refine t_then_exit ?_ | refine t_block_eq rfl ?_)) | refine c_exit ?_ | refine c_ret ?_ | (refine i_cond ?_; (refine c_cf rfl (by (exact decide_eq_false (by omega))) ?_))))
    exact t_hp (hp' := []) (fun w h => h.psub (by first | ((repeat (first | exact PSub.nil | exact Ext.head | apply Ext.tail | apply PSub.cons)); done) | fail)) (t_ret2 Try.results37 rfl rfl ⟨rfl, rfl⟩)
end Go.Proofs.Ytidekbijkknlmaa

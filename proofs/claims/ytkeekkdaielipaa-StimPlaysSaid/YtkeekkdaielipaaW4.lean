/-
  Layer 12: FireSamples, walked.
-/
import Derived.Test.YtkeekkdaielipaaW5
import Derived.Test.YtkeekkdaielipaaV1
import Derived.Test.YtkeekkdaielipaaW2
import Derived.Test.YtkeekkdaielipaaW3
import Derived.Test.YtkeekkdaielipaaR4
import Derived.Test.YtkeekkdaielipaaR7
set_option linter.unusedVariables false
set_option maxRecDepth 100000
namespace Go.Proofs.Ytkeekkdaielipaa
open Go.RowKit
attribute [local irreducible] TL TC TQ TK TO Qt TA

section
variable {P : Program} {S : Nat → Prop} {w0 : World} {env : Env} {hp : List Asn} {d : Option Tmp} {ty : TypeId} {pos : String} {af : Array Edge} {g : Option (Nat × Bool)}
theorem q_min3 {x y z : Operand} {m m' m'' : Nat} {ts : Array TypeId} (hx : ev env x = some (.int .i64 (m : Int))) (hy : ev env y = some (.int .i64 (m' : Int))) (hz : ev env z = some (.int .i64 (m'' : Int))) : Qt P S w0 ⟨d, .call { callee := .builtin .min, args := #[x, y, z], argTypes := ts }, ty, pos, af, g⟩ env hp (.int .i64 ((min (min m m') m'' : Nat) : Int)) := by
  unfold Qt
  intro n a w hE hS
  simp [execOp, resolve, invoke, builtin, hE.ev hx, hE.ev hy, hE.ev hz, Builtin.min_, Builtin.min2]
  repeat' split
  all_goals omega
end
theorem reps_in {S : Nat → Prop} {w0 : World} {A : Option Addr} {n c : Nat} {xs : List RepV} (hn : xs.length = n) (h1 : Ro S w0 (row 46 3 (.slice A n c) n (xs.flatMap repCells))) (h2 : Ro S w0 (starL (xs.map repB))) : InS S w0 3 (InRep S w0) A n xs := by
  refine InS.rows (xs.map repCells) hn (by simpa using hn) (fun r hr => ?_) (by rw [← List.flatMap_def]; exact h1.rowV) (fun i r x hr hx => ?_)
  · obtain ⟨x, _, rfl⟩ := List.mem_map.1 hr
    rfl
  · rw [List.getElem?_map, hx] at hr
    injection hr with hr
    subst hr
    have hrow : Ro S w0 (bytesA x.v x.b) := Ro.star h2 (i := i) (by rw [List.getElem?_map, hx]; rfl)
    obtain ⟨Ax, cx, e1, -⟩ := bytesA_ro hrow.is
    refine ⟨rfl, Ax, cx, e1, ?_⟩
    rw [e1] at hrow
    exact hrow.bytes
theorem list_in1 {S S' : Nat → Prop} {w0 w1 : World} {y : LstV} (hrow : Ro S' w1 (tabsA y)) (hok : LstOk S w0 y) (hto : ∀ r, Ro S w0 r → Ro S' w1 r) : InList S' w1 (lstCells y) y.l := by
  obtain ⟨k1, k2, k3, k4, k5, k6⟩ := hok
  obtain ⟨At, ct, e1, e2, e3, -⟩ := row_slice hrow.is
  have hrow' : Ro S' w1 (row 39 1 (.slice At y.tvs.length ct) y.tvs.length y.tvs) := by rw [← e1]; exact hrow
  refine ⟨⟨At, y.tvs.length, ct, by rw [lstCells, e1], ?_, e2, e3⟩, k3, k4, k5, k6⟩
  refine InS.rows (y.tvs.map fun v => [v]) k1.symm (by simp) (fun r hr => ?_) (by rw [flatten_singles]; exact hrow'.rowV) (fun j r x hr hx => ?_)
  · obtain ⟨v, _, rfl⟩ := List.mem_map.1 hr
    rfl
  · simp only [List.getElem?_map, Option.map_eq_some_iff] at hr
    obtain ⟨v, hv, rfl⟩ := hr
    exact (k2 j v x hv hx).to hto
attribute [local irreducible] blk row bytesA starL memA segA roB

attribute [local irreducible] repB refA rsegA sees refL tabsA

set_option maxHeartbeats 8000000 in
theorem fireSamples_walk (v : Value) (x : MapI) (W : World) (hx : InMap (fps []) W v x) (B : Option Addr) (k c : Nat) (bs : List Int) (hb : (roB B k bs).C W) (hkc : k ≤ c) (hcm : c ≤ maxLen) (lv : List Value) (l : ListI) (hl : InList (fps []) W lv l) :
    Calls Try.prog 11 #[v, .slice B k c, .agg lv.toArray] W (Ret W [] fun v _ => v = .bool true) := by
  obtain ⟨A0, c0, A0', n0', c0', hv, hq0⟩ := hx.is
  clear hq0
  subst hv
  have hl0 := hl
  obtain ⟨⟨A, n, cl, rfl, htab, hnc, hcm2⟩, hl1, hl2, hl3, hl4⟩ := hl
  refine enter (vs := [.agg #[.int .i64 x.ram, .slice A0 x.segs.length c0, .slice A0' n0' c0'], .slice B k c, .agg #[.int .i64 l.first, .slice A n cl, .bool l.stim, .int .u8 l.ev, .int .u8 l.pre, .int .u8 l.pri, .bool l.on, .bool l.ch]]) Try.func11 rfl Try.ntmps11 rfl (Hold.nil W) ?_
  have hmx : maxLen = 2 ^ 63 - 1 := rfl
  have hbr := Ro.empty hb
  have hbl := roB_len hb
  clear hb
  (repeat (first | (refine i_dst ?_; (first | (refine i_assign ?_; refine l_q rfl rfl rfl (q_assign rfl) ?_) | (refine i_box ?_; (refine l_boxA rfl rfl (fun _ => ?_))))) | refine d_seq ?_ | refine c_region ?_ | refine l_nil ?_ | (refine i_q ?_; (refine d_then ?_))))
  rename_i b3 b5
  (refine l_call0 rfl rfl Try.func26 rfl (by decide) (fun w' h => shown12_spec w') (fun v B hv => ?_); obtain ⟨rfl, rfl⟩ := hv)
  (repeat (first | (refine i_dst ?_; (first | (refine i_assign ?_; refine l_q rfl rfl rfl (q_assign rfl) ?_) | (refine i_load ?_; refine l_q rfl rfl rfl (by ((exact q_ldN tab rfl rfl rfl rfl (by first | ((repeat (first | exact List.Mem.head _ | apply List.Mem.tail)); done) | fail) (by first | ((repeat (first | exact TakeR.nil | apply TakeR.cons | apply CutR.zero | apply CutR.skip)); done) | fail)))) ?_))) | refine d_seq ?_ | refine c_region ?_ | refine l_nil ?_ | (refine i_q ?_; (refine d_then ?_))))
  (refine l_call0 rfl rfl Try.func15 rfl (by decide) (fun w' h => new_spec _ x w' (hx.to0 h)) (fun v B hv => ?_); obtain ⟨hok, p, m, rfl, rfl, hm⟩ | ⟨hno, rfl, rfl⟩ := hv)
  · (repeat (first | (refine i_dst ?_; (first | (refine i_move ?_; refine l_q rfl rfl rfl (q_move rfl) ?_) | (refine i_assign ?_; refine l_q rfl rfl rfl (q_assign rfl) ?_) | (refine i_load ?_; refine l_q rfl rfl rfl (by ((exact q_ldN tab rfl rfl rfl rfl (by first | ((repeat (first | exact List.Mem.head _ | apply List.Mem.tail)); done) | fail) (by first | ((repeat (first | exact TakeR.nil | apply TakeR.cons | apply CutR.zero | apply CutR.skip)); done) | fail)))) ?_) | refine l_q rfl rfl rfl (by (exact q_extract rfl rfl)) ?_)) | refine d_seq ?_ | refine c_region ?_ | refine l_nil ?_ | (refine i_q ?_; (refine d_then ?_))))
    (refine l_call0 rfl rfl Try.func30 rfl (by decide) (fun w' h => rnew_spec _ x w' (hx.to0 h)) (fun v B hv => ?_); obtain ⟨_, q, y, rfl, rfl, hy⟩ | ⟨hno, _⟩ := hv)
    rotate_left
    · exact absurd hok hno
    have hk : MmOk m.abs := by rw [hm]; exact newM_ok hok
    have hE : y.abs = m.abs := by rw [hm, hy]
    clear hm hy
    (repeat (first | (refine i_dst ?_; (first | (refine i_move ?_; refine l_q rfl rfl rfl (q_move rfl) ?_) | (refine i_assign ?_; refine l_q rfl rfl rfl (q_assign rfl) ?_) | (refine i_bin ?_; refine l_q rfl rfl rfl (by (first | exact q_neq rfl rfl | exact q_eqnil tab rfl rfl rfl)) ?_) | (refine i_blt ?_; refine l_q rfl rfl rfl (by (exact q_len tab rfl rfl)) ?_) | (refine l_q rfl rfl rfl (by (first | exact q_extract rfl rfl | (apply iq_fld; (exact q_fieldAddr tab rfl rfl rfl rfl rfl rfl rfl)) | (apply iq_nck; (exact q_nilck rfl)) | exact q_pick_f rfl rfl)) ?_))) | refine d_seq ?_ | refine c_region ?_ | refine l_nil ?_ | (refine i_q ?_; (refine d_then ?_)) | refine c_skip ?_ | (refine i_guard ?_; (refine l_gt rfl rfl rfl ?_)) | (refine i_cond ?_; (refine c_cf rfl (by (rfl)) ?_))))
    refine l_fact (p := ∃ R cr, y.m.rv = .slice R y.m.ram.length cr) (fun w h => ?_) ?_
    · obtain ⟨R, cr, e1, -⟩ := bytesA_ro (Ro.refRam (Ro.empty (h.mem (X := refA q y) (by first | ((repeat (first | exact List.Mem.head _ | apply List.Mem.tail)); done) | fail)))).is
      exact ⟨R, cr, e1⟩
    rintro ⟨R, cr, hrv⟩
    refine l_q rfl rfl rfl (q_load tab rfl rfl rfl (fun w h => blk_cell (Ro.refBlk (Ro.empty (h.mem (X := refA q y) (by first | ((repeat (first | exact List.Mem.head _ | apply List.Mem.tail)); done) | fail)))).is rfl)) ?_
    rw [hrv]
    (repeat ((refine i_dst ?_; ((refine i_blt ?_; refine l_q rfl rfl rfl (by (exact q_len tab rfl rfl)) ?_)))))
    refine l_q rfl rfl rfl (q_min3 rfl rfl rfl) ?_
    obtain ⟨kk, hkk⟩ : ∃ kk, kk = min (min k 64) y.m.ram.length := ⟨_, rfl⟩
    rw [← hkk]
    have hr1 := hbr.take (k := kk) (by omega)
    have hky : MmOk y.abs := by rw [hE]; exact hk
    (repeat (first | (refine i_dst ?_; (first | (refine i_move ?_; refine l_q rfl rfl rfl (q_move rfl) ?_) | (refine i_assign ?_; refine l_q rfl rfl rfl (q_assign rfl) ?_) | (refine i_sl ?_; refine l_q rfl rfl rfl (by (exact q_slHi tab rfl rfl rfl rfl (by first | (with_reducible exact Int.toNat_natCast _) | (with_reducible exact Int.toNat_zero) | (with_reducible exact Int.toNat_one) | rfl) (by (omega)))) ?_))) | refine d_seq ?_ | refine c_region ?_ | refine l_nil ?_ | (refine i_q ?_; (refine d_then ?_))))
    (refine l_call1 (X := memA p m) (by first | ((repeat (first | exact Ext.head | apply Ext.tail)); done) | fail) rfl rfl Try.func24 rfl (by decide) (fun w' h => write_spec h.split hk 1 0 0 B kk c _ (h.roOf hr1 (fun X hX => by simp at hX; simp [hX])) (by omega) (by omega) (by omega) (by omega) (by omega)) (fun v B hv => ?_); obtain ⟨m1, rfl, hm1, rfl⟩ := hv)
    have hk1' : MmOk m1.abs := by rw [hm1]; exact writeM_ok hk (by omega)
    (repeat ((refine i_dst ?_; ((refine i_move ?_; refine l_q rfl rfl rfl (q_move rfl) ?_)))))
    (refine l_call1 (X := refA q y) (by first | ((repeat (first | exact Ext.head | apply Ext.tail)); done) | fail) rfl rfl Try.func41 rfl (by decide) (fun w' h => rwrite_spec h.split hky 1 0 0 B kk c _ (h.roOf hr1 (fun X hX => by simp at hX; simp [hX])) (by omega) (by omega) (by omega) (by omega) (by omega)) (fun v B hv => ?_); obtain ⟨y1, rfl, hy1, rfl⟩ := hv)
    rw [hE]
    rw [hE, ← hm1] at hy1
    (repeat (first | (refine i_dst ?_; (first | (refine i_load ?_; refine l_q rfl rfl rfl (by ((exact q_ldN tab rfl rfl rfl rfl (by first | ((repeat (first | exact List.Mem.head _ | apply List.Mem.tail)); done) | fail) (by first | ((repeat (first | exact TakeR.nil | apply TakeR.cons | apply CutR.zero | apply CutR.skip)); done) | fail)))) ?_) | (refine i_bin ?_; refine l_q rfl rfl rfl (by (exact q_neq rfl rfl)) ?_) | (refine i_bldS ?_; refine l_bldS tab rfl rfl rfl rfl (by first | exact CellsOf.agg | exact CellsOf.one rfl) (by first | ((repeat (first | exact RepR.zero | exact AppR.nil | apply RepR.succ | apply AppR.cons)); done) | fail) (by first | ((repeat (first | exact FillR.nil | exact LSets.nil | exact LSet.zero | exact CellsOf.agg | exact rfl | exact CellsOf.one rfl | apply FillR.cons | apply LSets.cons | apply LSet.succ)); done) | fail) (fun w => by kernel_rfl) (fun _ => ?_)))) | refine d_seq ?_ | refine c_region ?_ | refine l_nil ?_ | (refine i_q ?_; (refine d_then ?_)) | refine c_skip ?_ | (refine i_cond ?_; ((refine c_cf rfl (by (((first | (simp; done) | fail)))) ?_)))))
    rename_i g56
    (refine l_call0 rfl rfl Try.func37 rfl (by decide) (fun w' h => few12b_spec (some ⟨g56, 0, none⟩) 1 1 [l] w' (fps []) W (InS.blk (sz := 8) (xs := [l]) (rows := [[.int .i64 l.first, .slice A n cl, .bool l.stim, .int .u8 l.ev, .int .u8 l.pre, .int .u8 l.pri, .bool l.on, .bool l.ch]]) (Ro.empty (h.mem (X := blk g56 _ _) (by first | ((repeat (first | exact List.Mem.head _ | apply List.Mem.tail)); done) | fail))) rfl (by simp) (fun i r x hr hx => by
      obtain rfl : i = 0 := by
        have := (List.getElem?_eq_some_iff.1 hr).1
        rw [List.length_singleton] at this
        omega
      injection hr with hr
      injection hx with hx
      subst hr hx
      exact hl0)) (fun r hr => roOf0 h hr)) (fun v B hv => ?_); obtain ⟨A1, c1, xs0, rfl, hx1, hx2, rfl, hx3, hx4⟩ := hv)
    rcases xs0 with _ | ⟨⟨l1, tv1, tvs1⟩, _ | ⟨x2, xs0⟩⟩
    · simp [fewL] at hx3
    · refine l_fact (p := ∃ At ct, tv1 = .slice At tvs1.length ct) (fun w h => ?_) ?_
      · have h1 : (tabsA ⟨l1, tv1, tvs1⟩).C w := starL_get (h.mem (X := starL _) (by first | ((repeat (first | exact List.Mem.head _ | apply List.Mem.tail)); done) | fail)) (i := 0) rfl
        unfold tabsA at h1
        obtain ⟨At, ct, e1, -⟩ := row_slice h1
        exact ⟨At, ct, e1⟩
      rintro ⟨At, ct, rfl⟩
      obtain ⟨x1, hX⟩ : ∃ x1 : LstV, x1 = ⟨l1, .slice At tvs1.length ct, tvs1⟩ := ⟨_, rfl⟩
      rw [← hX] at hx1 hx3 hx4 ⊢
      have hlc : lstCells x1 = [.int .i64 l1.first, .slice At tvs1.length ct, .bool l1.stim, .int .u8 l1.ev, .int .u8 l1.pre, .int .u8 l1.pri, .bool l1.on, .bool l1.ch] := by rw [hX]; rfl
      have hxl : x1.l = l1 := by rw [hX]
      have hx5 : x1.l = cutL 8 l := by simpa [fewL] using hx3
      have hok1 := hx4 x1 (by simp)
      have hsm : SmallL x1.l := small_few (n := 6) (k := 8) (ls := [l]) (by omega) _ (by rw [hx5]; simp [fewL])
      dsimp only [List.length_cons, List.length_nil]
      refine l_hp (hp' := [tabsA x1, row 42 8 (.slice A1 1 c1) 1 (lstCells x1), refA q y1, memA p m1]) (fun w h => ?_) ?_
      · have h1 := st_unstar (h.ext (X := starL (List.map tabsA [x1])) (by first | ((repeat (first | exact Ext.head | apply Ext.tail)); done) | fail))
        have e1 : List.flatMap lstCells [x1] = lstCells x1 := by simp
        rw [e1] at h1
        exact h1.psub (by first | ((repeat (first | exact PSub.nil | exact Ext.head | apply Ext.tail | apply PSub.cons)); done) | fail)
      refine l_ex (hp' := fun z : Nat × List Value => blk z.1 (lstCells x1 ++ z.2) 42 :: [tabsA x1, refA q y1, memA p m1]) (fun w h => row_open (e := 42) (size := 8) (A := A1) (n := 1) (c := c1) (by omega) (h.psub (by first | ((repeat (first | exact PSub.nil | exact Ext.head | apply Ext.tail | apply PSub.cons)); done) | fail))) ?_
      rintro ⟨gl, junk⟩ ⟨rfl, -⟩
      dsimp only
      rw [hlc]
      dsimp only [List.cons_append, List.nil_append]
      (repeat (first | (refine i_dst ?_; (first | (refine i_load ?_; refine l_q rfl rfl rfl (by ((exact q_ldN tab rfl rfl rfl rfl (by first | ((repeat (first | exact List.Mem.head _ | apply List.Mem.tail)); done) | fail) (by first | ((repeat (first | exact TakeR.nil | apply TakeR.cons | apply CutR.zero | apply CutR.skip)); done) | fail)))) ?_) | (refine i_ix ?_; refine l_q rfl rfl rfl (by (exact q_indexAddr tab rfl rfl rfl rfl (by omega))) ?_) | (refine i_alloc ?_; (refine l_allocA tab rfl rfl (fun _ => ?_))))) | refine d_seq ?_ | refine l_nil ?_ | (refine i_q ?_; (refine d_then ?_)) | (refine i_store ?_; ((refine l_setN tab rfl rfl rfl rfl (List.cons_ne_nil _ _) rfl (by first | ((repeat (first | exact Upd.head | apply Upd.tail)); done) | fail) (by first | ((repeat (first | exact LSets.nil | exact LSet.zero | apply LSets.cons | apply LSet.succ)); done) | fail) ?_)))))
      rename_i g13
      (refine a_begin mixed _ 11 rfl (fun w h => h) ?_)
      ((refine a_q 0 rfl rfl rfl rfl rfl (by decide +kernel) (q_move rfl) ?_; refine a_q 1 rfl rfl rfl rfl rfl (by decide +kernel) (q_move rfl) ?_; (refine a_gt 2 rfl rfl rfl rfl rfl rfl rfl (by decide +kernel) (q_move rfl) ?_); ((refine a_gt 3 rfl rfl rfl rfl rfl rfl rfl (by decide +kernel) (by ((exact q_ldN tab rfl rfl rfl rfl (by first | ((repeat (first | exact List.Mem.head _ | apply List.Mem.tail)); done) | fail) (by first | ((repeat (first | exact TakeR.nil | apply TakeR.cons | apply CutR.zero | apply CutR.skip)); done) | fail)))) ?_)); (refine a_gt 5 rfl rfl rfl rfl rfl rfl rfl (by decide +kernel) (q_move rfl) ?_); ((refine a_gt 6 rfl rfl rfl rfl rfl rfl rfl (by decide +kernel) (by ((exact q_ldN tab rfl rfl rfl rfl (by first | ((repeat (first | exact List.Mem.head _ | apply List.Mem.tail)); done) | fail) (by first | ((repeat (first | exact TakeR.nil | apply TakeR.cons | apply CutR.zero | apply CutR.skip)); done) | fail)))) ?_))))
      have hky1 : MmOk y1.abs := by rw [hy1]; exact hk1'
      refine a_eg 4 rfl (by decide +kernel) rfl rfl rfl (fun K hK => e_call0 rfl rfl Try.func43 rfl (by decide) (fun w' h => sample_spec (m := m1) (Ro.empty (h.mem (X := memA p m1) (by first | ((repeat (first | exact List.Mem.head _ | apply List.Mem.tail)); done) | fail))) hk1' _ x1.l (by have := list_in1 (Ro.empty (h.mem (X := tabsA x1) (by first | ((repeat (first | exact List.Mem.head _ | apply List.Mem.tail)); done) | fail))) hok1 (fun r hr => roOf0 h hr); rw [hlc] at this; exact this) hsm) (fun v B hv => ?_))
      obtain ⟨As, cs, ss, rfl, rfl, hss⟩ := hv
      refine hK _ _ (fun w h => h.subl (by first | ((repeat (first | exact SubL.nil | apply SubL.keep | apply SubL.skip)); done) | fail)) ?_
      clear hK
      (skip)
      refine a_eg 7 rfl (by decide +kernel) rfl rfl rfl (fun K hK => e_call0 rfl rfl Try.func44 rfl (by decide) (fun w' h => rsample_spec (m := y1) (Ro.empty (h.mem (X := refA q y1) (by first | ((repeat (first | exact List.Mem.head _ | apply List.Mem.tail)); done) | fail))) hky1 _ x1.l (by have := list_in1 (Ro.empty (h.mem (X := tabsA x1) (by first | ((repeat (first | exact List.Mem.head _ | apply List.Mem.tail)); done) | fail))) hok1 (fun r hr => roOf0 h hr); rw [hlc] at this; exact this) hsm) (fun v B hv => ?_))
      obtain ⟨At2, ct2, ts, rfl, rfl, hts⟩ := hv
      refine hK _ _ (fun w h => h.subl (by first | ((repeat (first | exact SubL.nil | apply SubL.keep | apply SubL.skip)); done) | fail)) ?_
      clear hK
      rw [hy1] at hts
      have hsl : ss.length = (sampleM m1.abs x1.l).length := by rw [← hss, List.length_map]
      have htl : ts.length = (sampleM m1.abs x1.l).length := by rw [← hts, List.length_map]
      have hln := hsm.1
      rw [← sampleM_len m1.abs] at hln
      have hst : ts.length = ss.length := by omega
      rw [hst]
      (skip)
      refine a_eg 8 rfl (by decide +kernel) rfl rfl rfl (fun K hK => e_call0 rfl rfl Try.func42 rfl (by decide) (fun w' h => same_spec (xs := ss) (ys := ts) (reps_in rfl (Ro.empty (h.mem (X := row _ 3 _ _ (ss.flatMap repCells)) (by first | ((repeat (first | exact List.Mem.head _ | apply List.Mem.tail)); done) | fail))) (Ro.empty (h.mem (X := starL (ss.map repB)) (by first | ((repeat (first | exact List.Mem.head _ | apply List.Mem.tail)); done) | fail)))) (reps_in hst (Ro.empty (h.mem (X := row _ 3 _ _ (ts.flatMap repCells)) (by first | ((repeat (first | exact List.Mem.head _ | apply List.Mem.tail)); done) | fail))) (Ro.empty (h.mem (X := starL (ts.map repB)) (by first | ((repeat (first | exact List.Mem.head _ | apply List.Mem.tail)); done) | fail)))) (hss.trans hts.symm) (by omega)) (fun v B hv => ?_))
      obtain ⟨rfl, rfl⟩ := hv
      refine hK _ _ (fun w h => h.subl (by first | ((repeat (first | exact SubL.nil | apply SubL.keep | apply SubL.skip)); done) | fail)) ?_
      clear hK
      ((refine a_q 9 rfl rfl rfl rfl rfl (by decide +kernel) (by (exact q_pick_t rfl rfl)) ?_; refine a_q 10 rfl rfl rfl rfl rfl (by decide +kernel) (q_assign rfl) ?_))
      refine a_done (by decide +kernel) ?_
      (repeat (first | (refine i_q ?_; (refine d_then ?_)) | refine c_ret ?_))
      exact t_ret1 Try.results11 rfl rfl
    · simp [fewL] at hx3
  · (repeat (first | (refine i_dst ?_; (first | (refine i_move ?_; refine l_q rfl rfl rfl (q_move rfl) ?_) | (refine i_assign ?_; refine l_q rfl rfl rfl (q_assign rfl) ?_) | (refine i_load ?_; refine l_q rfl rfl rfl (by ((exact q_ldN tab rfl rfl rfl rfl (by first | ((repeat (first | exact List.Mem.head _ | apply List.Mem.tail)); done) | fail) (by first | ((repeat (first | exact TakeR.nil | apply TakeR.cons | apply CutR.zero | apply CutR.skip)); done) | fail)))) ?_) | refine l_q rfl rfl rfl (by (exact q_extract rfl rfl)) ?_)) | refine d_seq ?_ | refine c_region ?_ | refine l_nil ?_ | (refine i_q ?_; (refine d_then ?_))))
    (refine l_call0 rfl rfl Try.func30 rfl (by decide) (fun w' h => rnew_spec _ x w' (hx.to0 h)) (fun v B hv => ?_); obtain ⟨hok, _⟩ | ⟨_, rfl, rfl⟩ := hv)
    · exact absurd hok hno
    (repeat (first | (refine i_dst ?_; (first | (refine i_move ?_; refine l_q rfl rfl rfl (q_move rfl) ?_) | (refine i_assign ?_; refine l_q rfl rfl rfl (q_assign rfl) ?_) | (refine i_bin ?_; refine l_q rfl rfl rfl (by (first | exact q_eql rfl rfl | exact q_neq rfl rfl | exact q_eqnil tab rfl rfl rfl)) ?_) | refine l_q rfl rfl rfl (by (first | exact q_extract rfl rfl | exact q_pick_t rfl rfl | exact q_pick_f rfl rfl)) ?_)) | refine d_seq ?_ | refine c_region ?_ | refine l_nil ?_ | (refine i_q ?_; (first | refine d_then ?_ | refine d_then_ret ?_)) | refine c_ret ?_ | (refine i_guard ?_; (refine l_gt rfl rfl rfl ?_)) | (refine i_cond ?_; (refine c_ct rfl (by (rfl)) ?_))))
    exact t_ret1 Try.results11 rfl rfl
end Go.Proofs.Ytkeekkdaielipaa

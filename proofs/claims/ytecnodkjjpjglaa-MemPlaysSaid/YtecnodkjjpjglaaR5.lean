/-
  The reference's memory: Copy, walked.
-/
import Derived.Test.YtecnodkjjpjglaaR4
set_option linter.unusedVariables false
set_option maxRecDepth 100000
namespace Go.Proofs.Ytecnodkjjpjglaa
open Go.RowKit
attribute [local irreducible] TL TC TQ TK TO Qt TA


theorem rcopy_open {S : Nat → Prop} {w0 w : World} {q a k : Nat} {x : RefV} {s : SegV} {v : Value} {l : List Int} (hs : x.m.segs[a]? = some s) (hv : s.pgs[k]? = some v) (hl : s.s.dat[k]? = some l) (h : St S w0 [refA q x] w) :
    ∃ y : Nat × Nat × List Value, (s.pv = .slice (some ⟨y.1, 0, none⟩) s.pgs.length y.2.1 ∧ s.pgs.length ≤ y.2.1 ∧ y.2.1 ≤ maxLen ∧ (s.pgs ++ y.2.2).length = y.2.1) ∧
      St S w0 [blk y.1 (s.pgs ++ y.2.2) 37, blk q [x.m.rv, x.m.sv, x.ev] 101, row 23 1 x.m.sv x.m.segs.length (x.m.segs.map (·.pv)), bytesA v l, starL ((List.zipWith bytesA s.pgs s.s.dat).set k emp), starL [emp, pureA (s.pgs.length = s.s.dat.length), emp], starL ((x.m.segs.map rsegA).set a emp), starL ((((refL q x).set 4 emp).set 0 emp).set 2 emp)] w := by
  have h1 := rpage_focus hs hv hl h
  have h2 : St S w0 (row 37 1 s.pv s.pgs.length s.pgs :: bytesA v l :: starL ((List.zipWith bytesA s.pgs s.s.dat).set k emp) :: starL [emp, pureA (s.pgs.length = s.s.dat.length), emp] :: starL ((x.m.segs.map rsegA).set a emp) :: [starL ((refL q x).set 4 emp)]) w := st_take (j := 2) (i := 0) h1 rfl rfl
  obtain ⟨g, cap, junk, e1, e2, e3, e4, e5⟩ := row_blk (h2.get (i := 0) rfl) (Nat.lt_of_le_of_lt (Nat.zero_le _) (List.getElem?_eq_some_iff.1 hv).1)
  have h3 := h2.see (i := 0) (Y := blk g (s.pgs ++ junk) 37) rfl (fun _ => e5) (fun b hb => by
    have hb := S_blk hb
    show s.pv.ownBlock = some b
    rw [e1, hb]
    rfl)
  have h4 : St S w0 (blk q [x.m.rv, x.m.sv, x.ev] 101 :: blk g (s.pgs ++ junk) 37 :: bytesA v l :: starL ((List.zipWith bytesA s.pgs s.s.dat).set k emp) :: starL [emp, pureA (s.pgs.length = s.s.dat.length), emp] :: starL ((x.m.segs.map rsegA).set a emp) :: [starL (((refL q x).set 4 emp).set 0 emp)]) w := st_take (j := 5) (i := 0) h3 rfl rfl
  have h5 : St S w0 (row 23 1 x.m.sv x.m.segs.length (x.m.segs.map (·.pv)) :: blk q [x.m.rv, x.m.sv, x.ev] 101 :: blk g (s.pgs ++ junk) 37 :: bytesA v l :: starL ((List.zipWith bytesA s.pgs s.s.dat).set k emp) :: starL [emp, pureA (s.pgs.length = s.s.dat.length), emp] :: starL ((x.m.segs.map rsegA).set a emp) :: [starL ((((refL q x).set 4 emp).set 0 emp).set 2 emp)]) w := st_take (j := 6) (i := 2) h4 rfl rfl
  exact ⟨(g, cap, junk), ⟨e1, e2, e3, by simpa using e4⟩, h5.pick [2, 1, 0, 3, 4, 5, 6, 7] rfl⟩
theorem rcopy_close {S : Nat → Prop} {w0 w : World} {q a k j g c : Nat} {x : RefV} {s : SegV} {v vN : Value} {l : List Int} {junk : List Value} (hs : x.m.segs[a]? = some s) (hv : s.pgs[k]? = some v) (hl : s.s.dat[k]? = some l) (hj : j < s.pgs.length) (hjd : j < s.s.dat.length)
    (he : s.pv = .slice (some ⟨g, 0, none⟩) s.pgs.length c) (hc : s.pgs.length ≤ c) (hm : c ≤ maxLen) (hlen : (s.pgs ++ junk).length = c)
    (h : St S w0 [bytesA vN l, blk g (s.pgs.set j vN ++ junk) 37, blk q [x.m.rv, x.m.sv, x.ev] 101, row 23 1 x.m.sv x.m.segs.length (x.m.segs.map (·.pv)), bytesA v l, starL ((List.zipWith bytesA s.pgs s.s.dat).set k emp), starL [emp, pureA (s.pgs.length = s.s.dat.length), emp], starL ((x.m.segs.map rsegA).set a emp), starL ((((refL q x).set 4 emp).set 0 emp).set 2 emp)] w) : St S w0 [refA q (x.put a (s.page j vN l))] w := by
  obtain ⟨v0, hv0⟩ : ∃ v0, s.pgs[j]? = some v0 := ⟨_, List.getElem?_eq_getElem hj⟩
  obtain ⟨l0, hl0⟩ : ∃ l0, s.s.dat[j]? = some l0 := ⟨_, List.getElem?_eq_getElem hjd⟩
  -- the row of pages
  have h1 := h.see (i := 1) (Y := row 37 1 s.pv s.pgs.length (s.pgs.set j vN)) rfl (fun h => by
      rw [he]
      exact row_of_blk h 1 s.pgs.length c hc hm (by rw [List.length_append, List.length_set, ← List.length_append]; simpa using hlen) _ (List.take_left' (by simp))) (fun b hb => by
    have hb : s.pv.ownBlock = some b := hb
    rw [he] at hb
    have hb : some g = some b := hb
    injection hb with hb
    exact blk_S hb.symm)
  -- the header, and the row of segments
  have h2 : St S w0 [blk q [x.m.rv, x.m.sv, x.ev] 101, bytesA vN l, row 37 1 s.pv s.pgs.length (s.pgs.set j vN), bytesA v l, starL ((List.zipWith bytesA s.pgs s.s.dat).set k emp), starL [emp, pureA (s.pgs.length = s.s.dat.length), emp], starL ((x.m.segs.map rsegA).set a emp), starL (((refL q x).set 4 emp).set 0 emp)] w := st_put (j := 7) (i := 2) (h1.pick [3, 2, 0, 1, 4, 5, 6, 7, 8] rfl) rfl rfl
  have h3 : St S w0 [bytesA vN l, row 37 1 s.pv s.pgs.length (s.pgs.set j vN), bytesA v l, starL ((List.zipWith bytesA s.pgs s.s.dat).set k emp), starL [emp, pureA (s.pgs.length = s.s.dat.length), emp], starL ((x.m.segs.map rsegA).set a emp), starL ((refL q x).set 4 emp)] w := st_put (j := 6) (i := 0) h2 rfl rfl
  have h4 : St S w0 [bytesA vN l, bytesA v l, starL ((List.zipWith bytesA s.pgs s.s.dat).set k emp), starL [row 37 1 s.pv s.pgs.length (s.pgs.set j vN), pureA (s.pgs.length = s.s.dat.length), emp], starL ((x.m.segs.map rsegA).set a emp), starL ((refL q x).set 4 emp)] w := st_put (j := 3) (i := 0) (h3.pick [1, 0, 2, 3, 4, 5, 6] rfl) rfl rfl
  have h5 := st_back (l := List.zipWith bytesA s.pgs s.s.dat) (i := k) (X := bytesA v l) (by simp [List.getElem?_zipWith, hv, hl]) (h4.pick [1, 2, 0, 3, 4, 5] rfl)
  rw [set_same (show (List.zipWith bytesA s.pgs s.s.dat)[k]? = some (bytesA v l) by simp [List.getElem?_zipWith, hv, hl])] at h5
  have h6 := st_take (j := 0) (i := j) (X := bytesA v0 l0) h5 rfl (by simp [List.getElem?_zipWith, hv0, hl0])
  exact rpage_unfocus hs hv0 hl0 (h6.pick [2, 1, 3, 4, 5] rfl)
attribute [local irreducible] blk row bytesA starL memA segA roB

attribute [local irreducible] refA rsegA sees refL

set_option maxHeartbeats 4000000 in
theorem rcopy_spec {q : Nat} {x : RefV} {w : World} (hA : Hold [refA q x] w) (hk : MmOk x.abs) (seg from_ to : Int) :
    Calls Try.prog 21 #[.pointer (some ⟨q, 0, none⟩), .int .i64 seg, .int .i64 from_, .int .i64 to] w (Ret w [refA q x] (RWriteR q (copyM x.abs seg from_ to))) := by
  refine enter (vs := [.pointer (some ⟨q, 0, none⟩), .int .i64 seg, .int .i64 from_, .int .i64 to]) Try.func21 rfl Try.ntmps21 rfl hA ?_
  have hh : (refA q x).C w := hA.all _ (by simp)
  have hmx : maxLen = 2 ^ 63 - 1 := rfl
  (repeat (first | (refine i_dst ?_; (first | (refine i_move ?_; refine l_q rfl rfl rfl (q_move rfl) ?_) | (refine i_assign ?_; refine l_q rfl rfl rfl (q_assign rfl) ?_))) | refine d_seq ?_ | refine c_region ?_ | refine l_nil ?_ | (refine i_q ?_; (refine d_then ?_))))
  (refine l_call0 rfl rfl Try.func46 rfl (by decide) (fun w' h => rthere_spec (roHp0 h (i := 0) rfl) hk seg from_) (fun v B hv => ?_); obtain ⟨rfl, rfl⟩ := hv)
  rcases rThere_is hh seg from_ with ⟨s, k1, k2, k3, k4, k5, k6, k7⟩ | ⟨k1, k2⟩
  · rw [k6]
    (repeat (first | (refine i_dst ?_; (first | (refine i_move ?_; refine l_q rfl rfl rfl (q_move rfl) ?_) | refine l_q rfl rfl rfl (by (exact q_not rfl)) ?_)) | (refine i_guard ?_; (refine l_gt rfl rfl rfl ?_))))
    (refine l_call0 rfl rfl Try.func46 rfl (by decide) (fun w' h => rthere_spec (roHp0 h (i := 0) rfl) hk seg to) (fun v B hv => ?_); obtain ⟨rfl, rfl⟩ := hv)
    rcases rThere_is hh seg to with ⟨s', n1, n2, n3, n4, n5, n6, n7⟩ | ⟨n1, n2⟩
    · rw [n6]
      rw [k2] at n2
      injection n2 with n2
      subst n2
      obtain ⟨k, rfl⟩ : ∃ k : Nat, seg = k := ⟨seg.toNat, by omega⟩
      obtain ⟨fr, rfl⟩ : ∃ fr : Nat, from_ = fr := ⟨from_.toNat, by omega⟩
      obtain ⟨tt, rfl⟩ : ∃ tt : Nat, to = tt := ⟨to.toNat, by omega⟩
      rw [Int.toNat_natCast] at k2 k7
      have hth : thereM x.abs k [(fr : Int), (tt : Int)] = some s.s := by
        rw [thereM, if_pos (by omega), Int.toNat_natCast, k7]
        dsimp only
        rw [if_pos]
        simp
        omega
      by_cases ht0 : tt = 0
      · have e1 : copyM x.abs k fr tt = (x.abs, 81) := by rw [copyM, hth]; exact if_pos (by omega)
        rw [e1]
        (repeat (first | (refine i_dst ?_; (first | (refine i_move ?_; refine l_q rfl rfl rfl (q_move rfl) ?_) | (refine i_assign ?_; refine l_q rfl rfl rfl (q_assign rfl) ?_) | (refine i_bin ?_; refine l_q rfl rfl rfl (by (exact q_eql rfl rfl)) ?_) | refine l_q rfl rfl rfl (by (first | exact q_not rfl | exact q_pick_f rfl rfl)) ?_)) | refine d_seq ?_ | refine c_region ?_ | refine l_nil ?_ | (refine i_q ?_; (first | refine d_then ?_ | refine d_then_ret ?_)) | refine c_skip ?_ | refine c_ret ?_ | (refine i_guard ?_; (refine l_gt rfl rfl rfl ?_)) | (refine i_cond ?_; (first | refine c_ct rfl (by (exact decide_eq_true (by omega))) ?_ | refine c_cf rfl (by (rfl)) ?_))))
        exact t_ret1 Try.results21 rfl ⟨x, rfl, rfl, rfl⟩
      · obtain ⟨lf, hlf⟩ : ∃ lf, s.s.dat[fr]? = some lf := ⟨_, List.getElem?_eq_getElem (by omega)⟩
        obtain ⟨vf, hvf⟩ : ∃ vf, s.pgs[fr]? = some vf := ⟨_, List.getElem?_eq_getElem (by omega)⟩
        have e1 : copyM x.abs k fr tt = (⟨x.abs.ram, x.abs.segs.set k ⟨s.s.ln, s.s.dat.set tt lf, s.s.s0, s.s.s1⟩⟩, 0) := by
          rw [copyM, hth]
          dsimp only
          rw [if_neg (by omega)]
          simp [List.getD_eq_getElem?_getD, hlf]
        rw [e1]
        have hso := hk.segs s.s (List.mem_of_getElem? k7)
        have hn4 : x.m.segs.length ≤ 4 := by have := hk.n4; simpa [RefV.abs, MemV.abs] using this
        have hp4 := hso.n4
        have hkl := (List.getElem?_eq_some_iff.1 k2).1
        have hlfl : lf.length ≤ 256 := by rw [hso.len lf (List.mem_of_getElem? hlf)]; exact hso.l2
        (repeat (first | (refine i_dst ?_; (first | (refine i_move ?_; refine l_q rfl rfl rfl (q_move rfl) ?_) | (refine i_bin ?_; refine l_q rfl rfl rfl (by (exact q_eql rfl rfl)) ?_) | refine l_q rfl rfl rfl (by (first | exact q_not rfl | exact q_pick_f rfl rfl)) ?_)) | refine d_seq ?_ | refine c_region ?_ | refine l_nil ?_ | (refine i_q ?_; (refine d_then ?_)) | refine c_skip ?_ | (refine i_guard ?_; (refine l_gt rfl rfl rfl ?_)) | (refine i_cond ?_; (refine c_cf rfl (by (first | rfl | exact decide_eq_false (by omega))) ?_))))
        refine c_ex (p := fun y : Nat × Nat × List Value => s.pv = .slice (some ⟨y.1, 0, none⟩) s.pgs.length y.2.1 ∧ s.pgs.length ≤ y.2.1 ∧ y.2.1 ≤ maxLen ∧ (s.pgs ++ y.2.2).length = y.2.1) (hp' := fun y => [blk y.1 (s.pgs ++ y.2.2) 37, blk q [x.m.rv, x.m.sv, x.ev] 101, row 23 1 x.m.sv x.m.segs.length (x.m.segs.map (·.pv)), bytesA vf lf, starL ((List.zipWith bytesA s.pgs s.s.dat).set fr emp), starL [emp, pureA (s.pgs.length = s.s.dat.length), emp], starL ((x.m.segs.map rsegA).set k emp), starL ((((refL q x).set 4 emp).set 0 emp).set 2 emp)]) (fun w h => rcopy_open k2 hvf hlf h) ?_
        rintro ⟨g, d, junk⟩ ⟨he, hd1, hd2, hj⟩
        dsimp only at he hd1 hd2 hj ⊢
        refine c_fact (p := ∃ Af cf Am cm, vf = .slice Af lf.length cf ∧ x.m.sv = .slice Am x.m.segs.length cm) (fun w h => ?_) ?_
        · obtain ⟨Af, cf, e2, _⟩ := bytesA_ro (h.get (i := 3) rfl)
          obtain ⟨Am, cm, e3, _⟩ := row_slice (h.get (i := 2) rfl)
          exact ⟨Af, cf, Am, cm, e2, e3⟩
        rintro ⟨Af, cf, Am, cm, rfl, hsv⟩
        have hvk : (x.m.segs.map (·.pv))[k]? = some (.slice (some ⟨g, 0, none⟩) s.pgs.length d) := by simp [k2, he]
        have hvf' : (s.pgs ++ junk)[0 + ((fr : Nat) : Int).toNat]? = some (.slice Af lf.length cf) := by
          rw [Int.toNat_natCast, Nat.zero_add, List.getElem?_append_left (by omega)]
          exact hvf
        have htl : 0 + ((tt : Nat) : Int).toNat < (s.pgs ++ junk).length := by rw [List.length_append]; omega
        rw [hsv]
        (refine a_beginE mixed [blk g (s.pgs ++ junk) 37, blk q [x.m.rv, .slice Am x.m.segs.length cm, x.ev] 101, row 23 1 (.slice Am x.m.segs.length cm) x.m.segs.length (x.m.segs.map (·.pv)), bytesA (.slice Af lf.length cf) lf] [blk q [x.m.rv, .slice Am x.m.segs.length cm, x.ev] 101, row 23 1 (.slice Am x.m.segs.length cm) x.m.segs.length (x.m.segs.map (·.pv)), bytesA (.slice Af lf.length cf) lf] 22 21 rfl (fun w h => h.subl (by first | ((repeat (first | exact SubL.nil | apply SubL.keep | apply SubL.skip)); done) | fail)) (fun w h => h.subl (by first | ((repeat (first | exact SubL.nil | apply SubL.keep | apply SubL.skip)); done) | fail)) ?_)
        ((refine a_q 0 rfl rfl rfl rfl rfl (by decide +kernel) (q_move rfl) ?_; refine a_q 1 rfl rfl rfl rfl rfl (by decide +kernel) (by ((apply iq_nck; (exact q_nilck rfl)))) ?_; refine a_q 2 rfl rfl rfl rfl rfl (by decide +kernel) (by ((apply iq_fld; (exact q_fieldAddr tab rfl rfl rfl rfl rfl rfl rfl)))) ?_; ((refine a_q 3 rfl rfl rfl rfl rfl (by decide +kernel) (by ((exact q_ld1 tab rfl rfl rfl (by first | ((repeat (first | exact List.Mem.head _ | apply List.Mem.tail)); done) | fail) (by (rfl))))) ?_)); refine a_q 4 rfl rfl rfl rfl rfl (by decide +kernel) (q_move rfl) ?_; refine a_q 5 rfl rfl rfl rfl rfl (by decide +kernel) (by ((exact q_ixS1 tab rfl rfl rfl rfl (by ((exact fun w h => row_src (h.mem (by first | ((repeat (first | exact List.Mem.head _ | apply List.Mem.tail)); done) | fail))))) (by first | (with_reducible exact Int.toNat_natCast _) | (with_reducible exact Int.toNat_zero) | (with_reducible exact Int.toNat_one) | rfl) (by (omega)) (by (omega))))) ?_; ((refine a_q 6 rfl rfl rfl rfl rfl (by decide +kernel) (by ((exact q_ldS tab rfl rfl rfl (by ((exact fun w h => row_src (h.mem (by first | ((repeat (first | exact List.Mem.head _ | apply List.Mem.tail)); done) | fail))))) (by (assumption))))) ?_)); refine a_q 7 rfl rfl rfl rfl rfl (by decide +kernel) (q_move rfl) ?_; refine a_q 9 rfl rfl rfl rfl rfl (by decide +kernel) (q_move rfl) ?_; refine a_q 10 rfl rfl rfl rfl rfl (by decide +kernel) (by ((apply iq_nck; (exact q_nilck rfl)))) ?_; refine a_q 11 rfl rfl rfl rfl rfl (by decide +kernel) (by ((apply iq_fld; (exact q_fieldAddr tab rfl rfl rfl rfl rfl rfl rfl)))) ?_; ((refine a_q 12 rfl rfl rfl rfl rfl (by decide +kernel) (by ((exact q_ld1 tab rfl rfl rfl (by first | ((repeat (first | exact List.Mem.head _ | apply List.Mem.tail)); done) | fail) (by (rfl))))) ?_)); refine a_q 13 rfl rfl rfl rfl rfl (by decide +kernel) (q_move rfl) ?_; refine a_q 14 rfl rfl rfl rfl rfl (by decide +kernel) (by ((exact q_ixS1 tab rfl rfl rfl rfl (by ((exact fun w h => row_src (h.mem (by first | ((repeat (first | exact List.Mem.head _ | apply List.Mem.tail)); done) | fail))))) (by first | (with_reducible exact Int.toNat_natCast _) | (with_reducible exact Int.toNat_zero) | (with_reducible exact Int.toNat_one) | rfl) (by (omega)) (by (omega))))) ?_; ((refine a_q 15 rfl rfl rfl rfl rfl (by decide +kernel) (by ((exact q_ldS tab rfl rfl rfl (by ((exact fun w h => row_src (h.mem (by first | ((repeat (first | exact List.Mem.head _ | apply List.Mem.tail)); done) | fail))))) (by (assumption))))) ?_)); refine a_q 16 rfl rfl rfl rfl rfl (by decide +kernel) (q_move rfl) ?_; refine a_q 17 rfl rfl rfl rfl rfl (by decide +kernel) (by (exact q_indexAddr1 tab rfl rfl rfl rfl (by omega))) ?_; ((refine a_y 18 rfl rfl rfl rfl rfl (by decide +kernel) (by ((exact q_ld1 tab rfl rfl rfl (by first | ((repeat (first | exact List.Mem.head _ | apply List.Mem.tail)); done) | fail) (by (assumption))))) ?_))))
        (refine a_e 8 rfl (by decide +kernel) rfl (fun K hK => e_bldS tab rfl rfl rfl rfl (by first | exact CellsOf.agg | exact CellsOf.one rfl) (by first | ((repeat (first | exact RepR.zero | exact AppR.nil | apply RepR.succ | apply AppR.cons)); done) | fail) (by first | ((repeat (first | exact FillR.nil | exact LSets.nil | exact LSet.zero | exact CellsOf.agg | exact rfl | exact CellsOf.one rfl | apply FillR.cons | apply LSets.cons | apply LSet.succ)); done) | fail) (fun w => by kernel_rfl) (fun g8 => hK _ _ (fun w h => h.subl (by first | ((repeat (first | exact SubL.nil | apply SubL.keep | apply SubL.skip)); done) | fail)) ?_)); clear hK)
        refine a_hp (fun w h => row0_of h) (fun w h => h.subl (by first | ((repeat (first | exact SubL.nil | apply SubL.keep | apply SubL.skip)); done) | fail)) ?_
        (skip)
        (refine a_e 19 rfl (by decide +kernel) rfl (fun K hK => e_app tab rfl rfl rfl rowB (by first | ((repeat (first | exact Ext.head | apply Ext.tail)); done) | fail) (news := bv lf) (fun w h => by rw [Nat.mul_one]; exact bytesA_src (h.mem (by first | ((repeat (first | exact List.Mem.head _ | apply List.Mem.tail)); done) | fail))) (bv_one _) (by omega) (by omega) (fun A3 c3 hA1 hA2 => hK _ _ (fun w h => h.subl (by first | ((repeat (first | exact SubL.nil | apply SubL.keep | apply SubL.skip)); done) | fail)) ?_)); clear hK)
        rw [Nat.zero_add, List.nil_append]
        ((refine a_q 20 rfl rfl rfl rfl rfl (by decide +kernel) (by (exact q_indexAddr1 tab rfl rfl rfl rfl (by omega))) ?_))
        refine a_e 21 rfl (by decide +kernel) rfl (fun K hK => e_setI tab rfl rfl rfl rfl (by first | ((repeat (first | exact Upd.head | apply Upd.tail)); done) | fail) htl (hK _ _ (fun w h => h.subl (by first | ((repeat (first | exact SubL.nil | apply SubL.keep | apply SubL.skip)); done) | fail)) ?_))
        clear hK
        refine a_done (by decide +kernel) ?_
        (repeat (first | (refine i_dst ?_; ((refine i_assign ?_; refine l_q rfl rfl rfl (q_assign rfl) ?_))) | refine d_seq ?_ | refine c_region ?_ | refine l_nil ?_ | (refine i_q ?_; (refine d_then ?_)) | refine c_ret ?_))
        refine t_hp (hp' := [refA q (x.put k (s.page tt (.slice A3 lf.length c3) lf))]) (fun w h => ?_) (t_ret1 Try.results21 rfl ⟨_, rfl, by rw [put_abs]; rfl, rfl⟩)
        have ho : Oct lf := bytesA_oct (h.get (i := 4) rfl)
        have h1 := h.see (i := 0) (Y := bytesA (.slice A3 lf.length c3) lf) rfl (fun h => bytesA_of rfl ho h) (fun b hb => bytesA_rowS b hb)
        rw [Int.toNat_natCast, Nat.zero_add, List.set_append_left _ _ (by omega), ← hsv] at h1
        exact rcopy_close k2 hvf hlf (by omega) (by omega) he hd1 hd2 hj h1
    · have e1 : copyM x.abs seg from_ to = (x.abs, 82) := by rw [copyM, there0 (page := to) (by simp) n2]
      rw [e1, n1]
      (repeat (first | (refine i_dst ?_; (first | (refine i_assign ?_; refine l_q rfl rfl rfl (q_assign rfl) ?_) | refine l_q rfl rfl rfl (by (first | exact q_not rfl | exact q_pick_f rfl rfl)) ?_)) | refine d_seq ?_ | refine c_region ?_ | refine l_nil ?_ | (refine i_q ?_; (first | refine d_then ?_ | refine d_then_ret ?_)) | refine c_ret ?_ | (refine i_guard ?_; (refine l_gt rfl rfl rfl ?_)) | (refine i_cond ?_; (refine c_ct rfl (by (rfl)) ?_))))
      exact t_ret1 Try.results21 rfl ⟨x, rfl, rfl, rfl⟩
  · have e1 : copyM x.abs seg from_ to = (x.abs, 82) := by rw [copyM, there0 (page := from_) (by simp) k2]
    rw [e1, k1]
    (repeat (first | (refine i_dst ?_; (first | (refine i_move ?_; refine l_q rfl rfl rfl (q_move rfl) ?_) | (refine i_assign ?_; refine l_q rfl rfl rfl (q_assign rfl) ?_) | refine l_q rfl rfl rfl (by (first | exact q_not rfl | exact q_pick_t rfl rfl)) ?_)) | refine d_seq ?_ | refine c_region ?_ | refine l_nil ?_ | (refine i_q ?_; (first | refine d_then ?_ | refine d_then_ret ?_)) | refine c_ret ?_ | (refine i_guard ?_; (refine l_gf rfl rfl rfl rfl rfl rfl ?_)) | (refine i_cond ?_; (refine c_ct rfl (by (rfl)) ?_))))
    exact t_ret1 Try.results21 rfl ⟨x, rfl, rfl, rfl⟩
end Go.Proofs.Ytecnodkjjpjglaa

/-
  Layer 14: StimNone, walked.
-/
import Derived.Test.YtkeekkdaielipaaT1
import Derived.Test.YtkeekkdaielipaaS8
import Derived.Test.YtkeekkdaielipaaS9
set_option linter.unusedVariables false
set_option maxRecDepth 100000
namespace Go.Proofs.Ytkeekkdaielipaa
open Go.RowKit
attribute [local irreducible] TL TC TQ TK TO Qt TA

theorem flat_set {α : Type} {f : α → List Value} {s : Nat} (hf : ∀ x, (f x).length = s) : ∀ {l : List α} {i : Nat} {x y : α}, l[i]? = some x → ∀ {k : Nat} {v : Value}, k < s → (f x).set k v = f y → (l.flatMap f).set (i * s + k) v = (l.set i y).flatMap f
  | [], i, x, y, h, k, v, _, _ => by simp at h
  | z :: l, 0, x, y, h, k, v, hk, hv => by
    simp at h
    subst h
    rw [Nat.zero_mul, Nat.zero_add, List.flatMap_cons, List.set_append_left _ _ (by rw [hf]; exact hk), hv]
    rfl
  | z :: l, i + 1, x, y, h, k, v, hk, hv => by
    have := flat_set hf (l := l) (i := i) (x := x) (y := y) (by simpa using h) hk hv
    rw [List.flatMap_cons, List.set_append_right _ _ (by rw [hf, Nat.add_mul]; omega), hf, show (i + 1) * s + k - s = i * s + k by rw [Nat.add_mul]; omega, this]
    rfl
theorem len_lst (x : LstV) : (lstCells x).length = 8 := rfl
def mixL (f : LstV → LstV) (xs : List LstV) (i : Nat) : List LstV := (xs.take i).map f ++ xs.drop i
theorem mixL_len (f : LstV → LstV) (xs : List LstV) (i : Nat) : (mixL f xs i).length = xs.length := by simp [mixL]; omega
theorem mixL_get {f : LstV → LstV} {xs : List LstV} {i : Nat} {x : LstV} (h : xs[i]? = some x) : (mixL f xs i)[i]? = some x := by
  have hi := (List.getElem?_eq_some_iff.1 h).1
  rw [mixL, List.getElem?_append_right (by simp; omega)]
  simp only [List.length_map, List.length_take]
  rw [Nat.min_eq_left (by omega), Nat.sub_self, List.getElem?_drop]
  exact h
theorem mixL_set {f : LstV → LstV} {xs : List LstV} {i : Nat} {x : LstV} (h : xs[i]? = some x) : (mixL f xs i).set i (f x) = mixL f xs (i + 1) := by
  have hi := (List.getElem?_eq_some_iff.1 h).1
  rw [mixL, List.set_append_right _ _ (by simp; omega)]
  simp only [List.length_map, List.length_take]
  rw [Nat.min_eq_left (by omega), Nat.sub_self, List.drop_eq_getElem_cons hi, List.set_cons_zero, mixL, List.take_add_one, h]
  simp
theorem mixL_all (f : LstV → LstV) (xs : List LstV) : mixL f xs xs.length = xs.map f := by simp [mixL]
theorem mixL_zero (f : LstV → LstV) (xs : List LstV) : mixL f xs 0 = xs := by simp [mixL]
theorem ofM_off {code : Nat} {ls : List ListI} (h : ∀ l ∈ ls, (l.on && l.stim) = false) : ofM code ls = none := ofM_none fun j l _ hl => by
  have := h l (List.mem_of_mem_take (List.mem_of_getElem? hl))
  simp only [hitM, this, Bool.false_and]
def setOn (on : Bool) (x : LstV) : LstV := ⟨⟨x.l.first, x.l.tabs, !on, x.l.ev, x.l.pre, x.l.pri, on, x.l.ch⟩, x.tv, x.tvs⟩
theorem setOn_ok {S : Nat → Prop} {W : World} {on : Bool} {x : LstV} (h : LstOk S W x) : LstOk S W (setOn on x) := ⟨h.len, h.tab, h.first, h.ev, h.pre, h.pri⟩
theorem map_tabsA (on : Bool) (xs : List LstV) : (xs.map (setOn on)).map tabsA = xs.map tabsA := by rw [List.map_map]; rfl
theorem empty_in {S : Nat → Prop} {w0 : World} {b g : Nat} (h3 : Ro S w0 (blk b [.slice (some ⟨g, 0, none⟩) 0 0] 39)) : InList S w0 [.int .i64 0, .slice (some ⟨b, 0, none⟩) 1 1, .bool true, .int .u8 0, .int .u8 0, .int .u8 0, .bool true, .bool false] ⟨0, [[]], true, 0, 0, 0, true, false⟩ := by
  refine ⟨⟨some ⟨b, 0, none⟩, 1, 1, rfl, ?_, Nat.le_refl _, by simp [maxLen]⟩, by simp, Nat.zero_le _, Nat.zero_le _, Nat.zero_le _⟩
  refine InS.blk (sz := 1) (xs := [([] : List EntryI)]) (rows := [[.slice (some ⟨g, 0, none⟩) 0 0]]) h3 rfl (by simp) (fun i r x hr hx => ?_)
  obtain rfl : i = 0 := by
    have := (List.getElem?_eq_some_iff.1 hr).1
    rw [List.length_singleton] at this
    omega
  obtain rfl : [.slice (some ⟨g, 0, none⟩) 0 0] = r := by simpa using hr
  obtain rfl : [] = x := by simpa using hx
  exact ⟨_, 0, 0, rfl, InS.nil _, Nat.le_refl _, Nat.zero_le _⟩
attribute [local irreducible] blk row bytesA starL memA segA roB

attribute [local irreducible] stimA partA

set_option maxHeartbeats 8000000 in
theorem stimNone_walk (W : World) (A : Option Addr) (n c : Nat) (ls : List ListI) (hls : InS (fps []) W 8 (InList (fps []) W) A n ls) (hnc : n ≤ c) (hcm : c ≤ maxLen) (kind code : Nat) (hkd : kind ≤ 255) (hcd : code ≤ 255) (B : Option Addr) (k cb : Nat) (b : List Int) (hr : (roB B k b).C W) (hkc : k ≤ cb) (hcb : cb ≤ maxLen) (at_ : Int) (on : Bool) :
    Calls Try.prog 4 #[.slice A n c, .agg #[.int .u8 kind, .int .u8 code, .slice B k cb], .int .i64 at_, .bool on] W (Ret W [] fun v _ => v = .bool true) := by
  refine enter (vs := [.slice A n c, .agg #[.int .u8 kind, .int .u8 code, .slice B k cb], .int .i64 at_, .bool on]) Try.func4 rfl Try.ntmps4 rfl (Hold.nil W) ?_
  have hmx : maxLen = 2 ^ 63 - 1 := rfl
  (repeat (first | (refine i_dst ?_; (first | (refine i_assign ?_; refine l_q rfl rfl rfl (q_assign rfl) ?_) | (refine i_box ?_; (refine l_boxA rfl rfl (fun _ => ?_))))) | refine d_seq ?_ | refine c_region ?_ | refine l_nil ?_ | (refine i_q ?_; (refine d_then ?_))))
  rename_i b5
  (refine l_call0 rfl rfl Try.func14 rfl (by decide) (fun w' h => shown14_spec w') (fun v B hv => ?_); obtain ⟨rfl, rfl⟩ := hv)
  (repeat (first | (refine i_dst ?_; (first | (refine i_move ?_; refine l_q rfl rfl rfl (q_move rfl) ?_) | (refine i_assign ?_; refine l_q rfl rfl rfl (q_assign rfl) ?_))) | refine d_seq ?_ | refine c_region ?_ | refine l_nil ?_ | (refine i_q ?_; (refine d_then ?_))))
  (refine l_call0 rfl rfl Try.func20 rfl (by decide) (fun w' h => few14_spec A n c ls w' (fps []) W hls (fun r hr => roOf0 h hr)) (fun v B hv => ?_); obtain ⟨A1, c1, xs, rfl, hx1, hx2, rfl, hx3, hx4⟩ := hv)
  (repeat (first | (refine i_dst ?_; (first | (refine i_move ?_; refine l_q rfl rfl rfl (q_move rfl) ?_) | (refine i_assign ?_; refine l_q rfl rfl rfl (q_assign rfl) ?_) | (refine i_blt ?_; refine l_q rfl rfl rfl (by (exact q_len tab rfl rfl)) ?_))) | refine d_seq ?_ | refine c_region ?_ | refine l_nil ?_ | refine c_block ?_ | (refine i_q ?_; (refine d_then ?_))))
  have hx6 : xs.length ≤ 6 := by
    have := congrArg List.length hx3
    rw [List.length_map, fewL, List.length_map, List.length_take] at this
    omega
  refine d_loop (T := Nat) [2, 3, 5, 9, 10, 21] (fun i => [(22, .int .i64 i)]) [starL (xs.map tabsA), blk b5 [.int .u8 kind, .int .u8 code, .slice B k cb] 46] (fun i => [row 42 8 (.slice A1 xs.length c1) xs.length ((mixL (setOn on) xs i).flatMap lstCells)]) (fun i => i ≤ xs.length) (fun i => xs.length - i) 0 (by first | ((repeat (first | exact Pick.nil | exact rfl | apply Pick.cons)); done) | fail) (Nat.zero_le _) (by first | ((repeat (first | exact trivial | exact rfl | apply Sub.cons | exact look_int rfl (by omega) | exact look_int rfl (by simp) | exact look_int rfl (by simp; omega))); done) | fail) (fun w h => by rw [mixL_zero]; exact h.subl (by first | ((repeat (first | exact SubL.nil | apply SubL.keep | apply SubL.skip)); done) | fail)) ?_
  intro i hi
  by_cases hlt : i < xs.length
  · obtain ⟨x, hx⟩ : ∃ x, xs[i]? = some x := ⟨_, List.getElem?_eq_getElem hlt⟩
    refine c_ex (fun w h => row_open (by omega) h) ?_
    rintro ⟨g, junk⟩ ⟨rfl, hg1, hg2, hg3⟩
    dsimp only at hg3 ⊢
    have hml := mixL_len (setOn on) xs i
    have hfl : ((mixL (setOn on) xs i).flatMap lstCells).length = xs.length * 8 := by rw [length_flat len_lst, hml]
    have ho1 : 0 + (i : Int).toNat * 8 + 6 < ((mixL (setOn on) xs i).flatMap lstCells ++ junk).length := by rw [List.length_append, hfl]; omega
    have ho2 : 0 + (i : Int).toNat * 8 + 2 < (((mixL (setOn on) xs i).flatMap lstCells ++ junk).set (0 + (i : Int).toNat * 8 + 6) (.bool on)).length := by rw [List.length_set, List.length_append, hfl]; omega
    (repeat (first | (refine i_dst ?_; (first | (refine i_move ?_; refine l_q rfl rfl rfl (q_move rfl) ?_) | (refine i_assign ?_; refine l_q rfl rfl rfl (q_assign rfl) ?_) | (refine i_bin ?_; refine l_q rfl rfl rfl (by (first | exact q_lss rfl rfl | exact q_add rfl rfl (by (exact wr_i64 (by omega))))) ?_) | (refine i_ix ?_; refine l_q rfl rfl rfl (by (exact q_indexAddr tab rfl rfl rfl rfl (by omega))) ?_) | (refine l_q rfl rfl rfl (by (first | (apply iq_fld; (exact q_fieldAddr tab rfl rfl rfl rfl rfl rfl rfl)) | exact q_not rfl)) ?_))) | refine d_seq ?_ | refine c_region ?_ | refine l_nil ?_ | refine c_block ?_ | (refine i_q ?_; (first | refine d_then ?_ | refine t_then ?_ | refine t_block ?_)) | refine c_skip ?_ | (refine i_store ?_; ((refine l_setI tab rfl rfl rfl rfl (by first | ((repeat (first | exact Upd.head | apply Upd.tail)); done) | fail) (by (omega)) ?_))) | (refine i_cond ?_; (refine c_ct rfl (by (exact decide_eq_true (by omega))) ?_))))
    refine k_again (i + 1) (by omega) (by omega) (by first | ((repeat (first | exact trivial | exact rfl | apply Sub.cons | exact look_int rfl (by omega) | exact look_int rfl (by simp) | exact look_int rfl (by simp; omega))); done) | fail) (fun w h => ?_)
    have e1 : (((mixL (setOn on) xs i).flatMap lstCells ++ junk).set (0 + (i : Int).toNat * 8 + 6) (.bool on)).set (0 + (i : Int).toNat * 8 + 2) (.bool !on) = (mixL (setOn on) xs (i + 1)).flatMap lstCells ++ junk := by
      rw [Int.toNat_natCast, Nat.zero_add, List.set_append_left _ _ (by rw [hfl]; omega), List.set_append_left _ _ (by rw [List.length_set, hfl]; omega)]
      congr 1
      have q1 := flat_set len_lst (mixL_get (f := setOn on) hx) (k := 6) (v := .bool on) (y := ⟨⟨x.l.first, x.l.tabs, x.l.stim, x.l.ev, x.l.pre, x.l.pri, on, x.l.ch⟩, x.tv, x.tvs⟩) (by omega) rfl
      rw [q1]
      have q2 := flat_set len_lst (l := (mixL (setOn on) xs i).set i ⟨⟨x.l.first, x.l.tabs, x.l.stim, x.l.ev, x.l.pre, x.l.pri, on, x.l.ch⟩, x.tv, x.tvs⟩) (List.getElem?_set_self (by rw [hml]; exact hlt)) (k := 2) (v := .bool !on) (y := setOn on x) (by omega) rfl
      rw [q2, List.set_set, mixL_set hx]
    rw [e1] at h
    exact row_shut hg1 hg2 (by rw [length_flat len_lst, mixL_len]) (by rw [List.length_append, length_flat len_lst, mixL_len]; rw [List.length_append, hfl] at hg3; exact hg3) h
  · obtain rfl : i = xs.length := by omega
    rw [mixL_all]
    (repeat (first | (refine i_dst ?_; (first | (refine i_load ?_; refine l_q rfl rfl rfl (by ((exact q_ld1 tab rfl rfl rfl (by first | ((repeat (first | exact List.Mem.head _ | apply List.Mem.tail)); done) | fail) (by (rfl))))) ?_) | (refine i_bin ?_; refine l_q rfl rfl rfl (by (exact q_lss rfl rfl)) ?_) | (refine i_blt ?_; refine l_q rfl rfl rfl (by (first | exact q_len tab rfl rfl | exact q_minN rfl rfl)) ?_) | (refine i_sl ?_; refine l_q rfl rfl rfl (by (exact q_slHi tab rfl rfl rfl rfl (by first | (with_reducible exact Int.toNat_natCast _) | (with_reducible exact Int.toNat_zero) | (with_reducible exact Int.toNat_one) | rfl) (by (omega)))) ?_) | (refine l_q rfl rfl rfl (by ((apply iq_fld; (exact q_fieldAddr tab rfl rfl rfl rfl rfl rfl rfl)))) ?_))) | refine d_seq ?_ | refine c_region ?_ | refine l_nil ?_ | (refine i_q ?_; (first | refine d_then ?_ | refine d_then_exit ?_ | refine t_then_exit ?_ | refine t_block_eq rfl ?_)) | refine c_exit ?_ | (refine i_store ?_; ((refine l_set tab rfl rfl rfl rfl (by first | ((repeat (first | exact Upd.head | apply Upd.tail)); done) | fail) (by first | ((repeat (first | exact LSet.zero | apply LSet.succ)); done) | fail) ?_))) | (refine i_cond ?_; ((refine c_cf rfl (by (((first | (simp; done) | fail)))) ?_)))))
    have hrW : Ro (fps []) W (roB B k b) := Ro.empty hr
    have hrt := hrW.take (k := min k 10) (by omega)
    generalize hkb : min k 10 = kb at hrt ⊢
    have hoff : ∀ l ∈ (xs.map (setOn on)).map (·.l), (l.on && l.stim) = false := fun l hl => by
      rw [List.map_map] at hl
      obtain ⟨x, _, rfl⟩ := List.mem_map.1 hl
      cases on <;> rfl
    have hoff' := ofM_off (code := code) hoff
    have hok' : ∀ x ∈ xs.map (setOn on), LstOk (fps []) W x := fun x hx => by
      obtain ⟨x0, h0, rfl⟩ := List.mem_map.1 hx
      exact setOn_ok (hx4 x0 h0)
    have hsm : ∀ l ∈ (xs.map (setOn on)).map (·.l), SmallL l := fun l hl => by
      rw [List.map_map] at hl
      obtain ⟨x, hx, rfl⟩ := List.mem_map.1 hl
      have : x.l ∈ fewL 6 8 ls := by rw [← hx3]; exact List.mem_map_of_mem hx
      have h8 := small_few (n := 6) (k := 8) (by omega) x.l this
      exact ⟨h8.1, h8.2⟩
    have htk : ∀ X, takeS X ((xs.map (setOn on)).map (·.l)) code (b.take kb) = (X, false) := fun X => by rw [takeS, hoff']
    have hap : ∀ M, applyS (absS [nilP, nilP, nilP, nilP]) M at_ [[]] = (absS [nilP, nilP, nilP, nilP], M, false) := fun M => by
      have hf : fullS (absS [nilP, nilP, nilP, nilP]) at_ [[]] = false := by
        rw [fullS, decide_eq_false_iff_not]
        rintro ⟨h0, h4, _, h5⟩
        rcases (by omega : at_.toNat = 0 ∨ at_.toNat = 1 ∨ at_.toNat = 2 ∨ at_.toNat = 3) with e | e | e | e <;> rw [e] at h5 <;> cases h5
      rw [applyS, hf]
      rfl
    rw [← map_tabsA on]
    (refine l_call0 rfl rfl Try.func16 rfl (by decide) (fun w' h => snew_spec w') (fun v B hv => ?_); obtain ⟨q, rfl, rfl⟩ := hv)
    (repeat (first | (refine i_dst ?_; (first | (refine i_assign ?_; refine l_q rfl rfl rfl (q_assign rfl) ?_) | (refine l_q rfl rfl rfl (by ((apply iq_bld; ((exact q_bld tab rfl rfl rfl (by first | ((repeat (first | exact FillR.nil | exact LSets.nil | exact LSet.zero | exact CellsOf.agg | exact rfl | exact CellsOf.one rfl | apply FillR.cons | apply LSets.cons | apply LSet.succ)); done) | fail) (fun w => by kernel_rfl)))))) ?_))) | refine d_seq ?_ | refine c_region ?_ | refine l_nil ?_ | (refine i_q ?_; (refine d_then ?_))))
    (refine l_call0 rfl rfl Try.func15 rfl (by decide) (fun w' h => new_spec _ ⟨4, [], []⟩ w' (InMap.ram 4)) (fun v B hv => ?_); obtain ⟨_, p, m, rfl, rfl, hm⟩ | ⟨hno, _⟩ := hv)
    rotate_left
    · exact absurd (okRam (by omega)) hno
    have hk : MmOk m.abs := by rw [hm]; exact newM_ok (okRam (by omega))
    (repeat (first | (refine i_dst ?_; (first | (refine i_move ?_; refine l_q rfl rfl rfl (q_move rfl) ?_) | (refine i_assign ?_; refine l_q rfl rfl rfl (q_assign rfl) ?_) | refine l_q rfl rfl rfl (by (exact q_extract rfl rfl)) ?_)) | refine d_seq ?_ | refine c_region ?_ | refine l_nil ?_ | (refine i_q ?_; (refine d_then ?_))))
    (refine l_call0 rfl rfl Try.func21 rfl (by decide) (fun w' h => sclear_nil w') (fun v B hv => ?_); obtain rfl := hv)
    (repeat (first | (refine i_dst ?_; (first | (refine i_move ?_; refine l_q rfl rfl rfl (q_move rfl) ?_) | (refine i_load ?_; refine l_q rfl rfl rfl (by ((exact q_ldN tab rfl rfl rfl rfl (by first | ((repeat (first | exact List.Mem.head _ | apply List.Mem.tail)); done) | fail) (by first | ((repeat (first | exact TakeR.nil | apply TakeR.cons | apply CutR.zero | apply CutR.skip)); done) | fail)))) ?_) | (refine i_bin ?_; refine l_q rfl rfl rfl (by (exact q_eql rfl rfl)) ?_) | (refine i_alloc ?_; (refine l_allocA tab rfl rfl (fun _ => ?_))) | (refine i_bldS ?_; refine l_bldS tab rfl rfl rfl rfl (by first | exact CellsOf.agg | exact CellsOf.one rfl) (by first | ((repeat (first | exact RepR.zero | exact AppR.nil | apply RepR.succ | apply AppR.cons)); done) | fail) (by first | ((repeat (first | exact FillR.nil | exact LSets.nil | exact LSet.zero | exact CellsOf.agg | exact rfl | exact CellsOf.one rfl | apply FillR.cons | apply LSets.cons | apply LSet.succ)); done) | fail) (fun w => by kernel_rfl) (fun _ => ?_)) | (refine l_q rfl rfl rfl (by (first | exact q_pick_t rfl rfl | (apply iq_bld; ((exact q_bld tab rfl rfl rfl (by first | ((repeat (first | exact FillR.nil | exact LSets.nil | exact LSet.zero | exact CellsOf.agg | exact rfl | exact CellsOf.one rfl | apply FillR.cons | apply LSets.cons | apply LSet.succ)); done) | fail) (fun w => by kernel_rfl)))))) ?_))) | refine d_seq ?_ | refine c_region ?_ | refine l_nil ?_ | (refine i_q ?_; (refine d_then ?_)) | (refine i_guard ?_; (refine l_gt rfl rfl rfl ?_)) | (refine i_store ?_; ((refine l_setN tab rfl rfl rfl rfl (List.cons_ne_nil _ _) rfl (by first | ((repeat (first | exact Upd.head | apply Upd.tail)); done) | fail) (by first | ((repeat (first | exact LSets.nil | exact LSet.zero | apply LSets.cons | apply LSet.succ)); done) | fail) ?_)))))
    rename_i g39 g40 g41
    (refine l_call1 (X := stimA sT q [nilP, nilP, nilP, nilP]) (by first | ((repeat (first | exact Ext.head | apply Ext.tail)); done) | fail) rfl rfl Try.func17 rfl (by decide) (fun w' h => stake_spec h.split A1 xs.length c1 _ (lists_in (xs := xs.map (setOn on)) (by simp) (h.roHp (by first | ((repeat (first | exact List.Mem.head _ | apply List.Mem.tail)); done) | fail)) (h.roHp (by first | ((repeat (first | exact List.Mem.head _ | apply List.Mem.tail)); done) | fail)) hok' (fun r hr => h.roOf hr (fun X hX => by simp at hX; simp [hX]))) hx1 hx2 hsm kind code hcd B kb cb (b.take kb) (h.roOf hrt (fun X hX => by simp at hX; simp [hX])) (by omega)) (fun v B hv => ?_); obtain ⟨x1, rfl, rfl, hx1'⟩ := hv)
    rw [htk] at hx1' ⊢
    (repeat (first | (refine i_dst ?_; (first | (refine i_move ?_; refine l_q rfl rfl rfl (q_move rfl) ?_) | (refine i_load ?_; refine l_q rfl rfl rfl (by ((exact q_ldN tab rfl rfl rfl rfl (by first | ((repeat (first | exact List.Mem.head _ | apply List.Mem.tail)); done) | fail) (by first | ((repeat (first | exact TakeR.nil | apply TakeR.cons | apply CutR.zero | apply CutR.skip)); done) | fail)))) ?_) | refine l_q rfl rfl rfl (by (first | exact q_not rfl | exact q_pick_t rfl rfl)) ?_)) | (refine i_guard ?_; (refine l_gt rfl rfl rfl ?_))))
    (refine l_call2 (X := stimA sT q x1) (Y := memA p m) (by first | ((repeat (first | exact Ext.head | apply Ext.tail)); done) | fail) (by first | ((repeat (first | exact Ext.head | apply Ext.tail)); done) | fail) rfl rfl Try.func18 rfl (by decide) (fun w' h => sapply_spec h.split hk at_ _ _ (empty_in (h.roHp (Y := blk g40 [.slice (some ⟨g39, 0, none⟩) 0 0] 39) (by first | ((repeat (first | exact List.Mem.head _ | apply List.Mem.tail)); done) | fail))) ⟨by simp, by simp⟩) (fun v B hv => ?_); obtain ⟨x2, m2, rfl, rfl, _, _⟩ := hv)
    rw [hx1', hap]
    (repeat (first | (refine i_dst ?_; (first | (refine i_move ?_; refine l_q rfl rfl rfl (q_move rfl) ?_) | (refine i_load ?_; refine l_q rfl rfl rfl (by ((exact q_ldN tab rfl rfl rfl rfl (by first | ((repeat (first | exact List.Mem.head _ | apply List.Mem.tail)); done) | fail) (by first | ((repeat (first | exact TakeR.nil | apply TakeR.cons | apply CutR.zero | apply CutR.skip)); done) | fail)))) ?_) | (refine i_bldS ?_; refine l_bldS tab rfl rfl rfl rfl (by first | exact CellsOf.agg | exact CellsOf.one rfl) (by first | ((repeat (first | exact RepR.zero | exact AppR.nil | apply RepR.succ | apply AppR.cons)); done) | fail) (by first | ((repeat (first | exact FillR.nil | exact LSets.nil | exact LSet.zero | exact CellsOf.agg | exact rfl | exact CellsOf.one rfl | apply FillR.cons | apply LSets.cons | apply LSet.succ)); done) | fail) (fun w => by kernel_rfl) (fun _ => ?_)) | refine l_q rfl rfl rfl (by (first | exact q_not rfl | exact q_pick_t rfl rfl)) ?_)) | (refine i_guard ?_; (refine l_gt rfl rfl rfl ?_))))
    rename_i g79
    (refine l_call0 rfl rfl Try.func17 rfl (by decide) (fun w' h => stake_nil _ 1 1 _ w' (one_in rfl (Ro.empty (h.mem (X := blk g79 _ _) (by first | ((repeat (first | exact List.Mem.head _ | apply List.Mem.tail)); done) | fail))) (empty_in (Ro.empty (h.mem (X := blk g40 [.slice (some ⟨g39, 0, none⟩) 0 0] 39) (by first | ((repeat (first | exact List.Mem.head _ | apply List.Mem.tail)); done) | fail))))) (Nat.le_refl _) (by simp [maxLen]) kind code hcd _) (fun v B hv => ?_); obtain ⟨rfl, rfl⟩ := hv)
    (repeat (first | (refine i_dst ?_; (first | (refine i_move ?_; refine l_q rfl rfl rfl (q_move rfl) ?_) | (refine i_load ?_; refine l_q rfl rfl rfl (by ((exact q_ldN tab rfl rfl rfl rfl (by first | ((repeat (first | exact List.Mem.head _ | apply List.Mem.tail)); done) | fail) (by first | ((repeat (first | exact TakeR.nil | apply TakeR.cons | apply CutR.zero | apply CutR.skip)); done) | fail)))) ?_) | refine l_q rfl rfl rfl (by (first | exact q_not rfl | exact q_pick_t rfl rfl)) ?_)) | (refine i_guard ?_; (refine l_gt rfl rfl rfl ?_))))
    (refine l_call0 rfl rfl Try.func22 rfl (by decide) (fun w' h => sfull_nil w' at_ _ rfl) (fun v B hv => ?_); obtain ⟨rfl, rfl⟩ := hv)
    (repeat (first | (refine i_dst ?_; (first | (refine i_move ?_; refine l_q rfl rfl rfl (q_move rfl) ?_) | (refine i_load ?_; refine l_q rfl rfl rfl (by ((exact q_ldN tab rfl rfl rfl rfl (by first | ((repeat (first | exact List.Mem.head _ | apply List.Mem.tail)); done) | fail) (by first | ((repeat (first | exact TakeR.nil | apply TakeR.cons | apply CutR.zero | apply CutR.skip)); done) | fail)))) ?_) | refine l_q rfl rfl rfl (by (first | exact q_not rfl | exact q_pick_t rfl rfl)) ?_)) | (refine i_guard ?_; (refine l_gt rfl rfl rfl ?_))))
    (refine l_call0 rfl rfl Try.func18 rfl (by decide) (fun w' h => sapply_nil w' _ at_ _ _ _ _ _ _ _ _) (fun v B hv => ?_); obtain ⟨rfl, rfl⟩ := hv)
    (repeat (first | (refine i_dst ?_; (first | (refine i_assign ?_; refine l_q rfl rfl rfl (q_assign rfl) ?_) | refine l_q rfl rfl rfl (by (first | exact q_not rfl | exact q_pick_t rfl rfl)) ?_)) | refine l_nil ?_ | (refine i_q ?_; (refine d_then ?_)) | refine c_ret ?_ | (refine i_guard ?_; (refine l_gt rfl rfl rfl ?_))))
    exact t_ret1 Try.results4 rfl rfl
end Go.Proofs.Ytkeekkdaielipaa

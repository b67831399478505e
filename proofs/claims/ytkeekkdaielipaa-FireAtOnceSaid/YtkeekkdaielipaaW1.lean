/-
  Layer 12: FireAtOnce, walked.
-/
import Derived.Test.YtkeekkdaielipaaV8
import Derived.Test.YtkeekkdaielipaaV1
set_option linter.unusedVariables false
set_option maxRecDepth 100000
namespace Go.Proofs.Ytkeekkdaielipaa
open Go.RowKit
attribute [local irreducible] TL TC TQ TK TO Qt TA

theorem strAdd (a b : List Int) : strOfNums a ++ strOfNums b = strOfNums (a ++ b) := by
  apply ByteArray.ext
  simp [strOfNums]
section
variable {P : Program} {S : Nat → Prop} {w0 : World} {env : Env} {hp : List Asn} {d : Nat}
theorem q_adds {ty : TypeId} {pos : String} {af : Array Edge} {g : Option (Nat × Bool)} {t yt : TypeId} {x y : Operand} {a b : List Int} (hx : ev env x = some (.string (strOfNums a))) (hy : ev env y = some (.string (strOfNums b))) (hl : a.length + b.length ≤ 9223372036854775807) : Qt P S w0 ⟨some d, .binOp .add t x y yt, ty, pos, af, g⟩ env hp (.string (strOfNums (a ++ b))) := by
  unfold Qt
  intro n a' w hE hS
  have h1 : ¬ (((strOfNums a).size + (strOfNums b).size : Nat) : Int) > IntKind.i64.max := by
    rw [strOfNums_size, strOfNums_size]
    have : IntKind.i64.max = 9223372036854775807 := rfl
    omega
  simp only [execOp, hE.ev hx, hE.ev hy, eqGuard, binOp, Op.stringOp]
  simp [strAdd]
  rw [strOfNums_size, strOfNums_size]
  omega
end
def aoE (os : List Int) : List EntryI := os.map fun v => ⟨1, 0, (v % 32).toNat⟩
def enC (e : EntryI) : List Value := [.int .u8 e.size, .int .u8 e.area, .int .u32 e.at_]
def aoL (os : List Int) : ListI := ⟨3, [aoE os, [⟨2, 0, 31⟩]], false, 0, 0, 0, false, false⟩
def aoX : MapI := ⟨32, [], []⟩
theorem aoX_ok : okMap aoX := ⟨by decide, by decide, by decide, by decide, fun i s h => by simp [aoX] at h⟩
theorem read32 {M : Mm} (h : M.ram.length = 32) {a : Nat} (ha : a ≤ 31) : readM M 1 0 (a : Nat) 1 = ((M.ram.drop a).take 1, 0) := by
  rw [readM, if_neg (by omega)]
  show (if (1 : Int) > M.ram.length ∨ (a : Int) > M.ram.length - 1 then _ else _) = _
  rw [if_neg (by omega)]
  rfl
theorem read31 {M : Mm} (h : M.ram.length = 32) : readM M 1 0 (31 : Nat) (2 : Nat) = ([], 80) := by
  rw [readM, if_neg (by omega)]
  show (if ((2 : Nat) : Int) > M.ram.length ∨ ((31 : Nat) : Int) > M.ram.length - ((2 : Nat) : Int) then _ else _) = _
  rw [if_pos (by omega)]
theorem write32 {M : Mm} (h : M.ram.length = 32) {l : List Int} (hl : l.length ≤ 32) : (writeM M 1 0 0 l).1.ram.length = 32 := by
  rw [writeM, if_neg (by omega)]
  show (if (l.length : Int) > M.ram.length ∨ (0 : Int) > M.ram.length - l.length then (M, 80) else if l.length = 0 then (M, 0) else if false then (M, 81) else (setArea M 1 0 (spl M.ram (0 : Int).toNat l), 0) : Mm × Int).1.ram.length = 32
  split
  · exact h
  · split
    · exact h
    · show (spl M.ram 0 l).length = 32
      rw [length_spl (by omega), h]
theorem ent32 {M : Mm} (h : M.ram.length = 32) {a : Nat} (ha : a ≤ 31) : entM M ⟨1, 0, a⟩ = (readM M 1 0 (a : Nat) 1).1 := by
  have h1 := read32 h ha
  rw [entM]
  show (if (readM M 1 0 (a : Nat) ((1 : Nat) : Int)).2 = 0 then (readM M 1 0 (a : Nat) ((1 : Nat) : Int)).1 else _) = _
  rw [show ((1 : Nat) : Int) = 1 from rfl, h1, if_pos rfl]
theorem ent31 {M : Mm} (h : M.ram.length = 32) : entM M ⟨2, 0, 31⟩ = [0, 0] := by
  rw [entM, read31 h, if_neg (by decide)]
  rfl
theorem aoE_take {os : List Int} {j en : Nat} (h : os[j]? = some (en : Int)) : aoE (os.take (j + 1)) = aoE (os.take j) ++ [⟨1, 0, en % 32⟩] := by
  rw [List.take_add_one, h, aoE, List.map_append]
  simp [aoE]
  omega
theorem row3E : RowT tab 39 38 3 8 (.agg #[.int .u8 0, .int .u8 0, .int .u32 0]) := ⟨rfl, rfl, rfl, by decide⟩
theorem ao_in {S : Nat → Prop} {w0 : World} {k c b1 b2 : Nat} {A : Option Addr} {os : List Int} (hk : os.length = k) (hkc : k ≤ c) (hcm : c ≤ maxLen) (h0 : Ro S w0 (row 38 3 (.slice A k c) k ((aoE os).flatMap enC))) (h1 : Ro S w0 (blk b1 [.int .u8 2, .int .u8 0, .int .u32 31] 38)) (h2 : Ro S w0 (blk b2 [.slice A k c, .slice (some ⟨b1, 0, none⟩) 1 1] 39)) :
    InList S w0 [.int .i64 3, .slice (some ⟨b2, 0, none⟩) 2 2, .bool false, .int .u8 0, .int .u8 0, .int .u8 0, .bool false, .bool false] (aoL os) := by
  refine ⟨⟨some ⟨b2, 0, none⟩, 2, 2, rfl, ?_, Nat.le_refl _, by simp [maxLen]⟩, by simp [aoL], Nat.zero_le _, Nat.zero_le _, Nat.zero_le _⟩
  refine InS.blk (sz := 1) (xs := (aoL os).tabs) (rows := [[.slice A k c], [.slice (some ⟨b1, 0, none⟩) 1 1]]) h2 rfl (by simp) (fun i r x hr hx => ?_)
  match i, hr, hx with
  | 0, hr, hx =>
    injection hr with hr
    injection hx with hx
    subst hr hx
    refine ⟨A, k, c, rfl, InS.rows ((aoE os).map enC) (by simpa [aoE] using hk) (by simpa [aoE] using hk) (fun r hr => ?_) (by rw [← List.flatMap_def]; exact h0.rowV) (fun i r x hr hx => ?_), hkc, hcm⟩
    · obtain ⟨x, _, rfl⟩ := List.mem_map.1 hr
      rfl
    · rw [List.getElem?_map, hx] at hr
      injection hr with hr
      subst hr
      rw [aoE, List.getElem?_map] at hx
      obtain ⟨v, _, rfl⟩ := Option.map_eq_some_iff.1 hx
      exact ⟨rfl, by show (1 : Nat) ≤ 255; omega, Nat.zero_le _, by show (v % 32).toNat ≤ _; omega⟩
  | 1, hr, hx =>
    injection hr with hr
    injection hx with hx
    subst hr hx
    exact ⟨_, 1, 1, rfl, InS.blk (sz := 3) (xs := [(⟨2, 0, 31⟩ : EntryI)]) (rows := [[.int .u8 2, .int .u8 0, .int .u32 31]]) h1 rfl (by simp) (fun i r x hr hx => by
      match i, hr, hx with
      | 0, hr, hx =>
        injection hr with hr
        injection hx with hx
        subst hr hx
        exact ⟨rfl, by decide, by decide, by decide⟩), Nat.le_refl _, by simp [maxLen]⟩
attribute [local irreducible] blk row bytesA starL memA segA roB

attribute [local irreducible] repB

set_option maxHeartbeats 8000000 in
theorem fireAtOnce_walk (W : World) (B0 B1 O : Option Addr) (k0 c0 k1 c1 n c : Nat) (l0 l1 os : List Int) (hb0 : (roB B0 k0 l0).C W) (hk0 : k0 ≤ c0) (hc0 : c0 ≤ maxLen) (hb1 : (roB B1 k1 l1).C W) (hk1 : k1 ≤ c1) (hc1 : c1 ≤ maxLen) (ho : (roB O n os).C W) (hnc : n ≤ c) (hcm : c ≤ maxLen) :
    Calls Try.prog 12 #[.slice B0 k0 c0, .slice B1 k1 c1, .slice O n c] W (Ret W [] fun v _ => v = .bool true) := by
  refine enter (vs := [.slice B0 k0 c0, .slice B1 k1 c1, .slice O n c]) Try.func12 rfl Try.ntmps12 rfl (Hold.nil W) ?_
  have hmx : maxLen = 2 ^ 63 - 1 := rfl
  have hr0 := (Ro.empty hb0).take (k := min k0 32) (by omega)
  have hr1 := (Ro.empty hb1).take (k := min k1 32) (by omega)
  have hl0 := roB_len hb0
  have hl1 := roB_len hb1
  have hol : os.length = n := roB_len ho
  have hoo : Oct os := roB_oct ho
  have hor : Ro (fps []) W (roB O n os) := Ro.empty ho
  clear hb0 hb1 ho
  (repeat (first | (refine i_dst ?_; ((refine i_assign ?_; refine l_q rfl rfl rfl (q_assign rfl) ?_))) | refine d_seq ?_ | refine c_region ?_ | refine l_nil ?_ | (refine i_q ?_; (refine d_then ?_))))
  (refine l_call0 rfl rfl Try.func26 rfl (by decide) (fun w' h => shown12_spec w') (fun v B hv => ?_); obtain ⟨rfl, rfl⟩ := hv)
  (repeat (first | (refine i_dst ?_; (first | (refine i_assign ?_; refine l_q rfl rfl rfl (q_assign rfl) ?_) | (refine l_q rfl rfl rfl (by ((apply iq_bld; ((exact q_bld tab rfl rfl rfl (by first | ((repeat (first | exact FillR.nil | exact LSets.nil | exact LSet.zero | exact CellsOf.agg | exact rfl | exact CellsOf.one rfl | apply FillR.cons | apply LSets.cons | apply LSet.succ)); done) | fail) (fun w => by kernel_rfl)))))) ?_))) | refine d_seq ?_ | refine c_region ?_ | refine l_nil ?_ | (refine i_q ?_; (refine d_then ?_))))
  (refine l_call0 rfl rfl Try.func15 rfl (by decide) (fun w' h => new_spec _ aoX w' ⟨⟨none, 0, none, 0, 0, rfl, Nat.le_refl _, Nat.zero_le _, Ro.empty (roV_nil _), InBB.nil, Nat.le_refl _, Nat.zero_le _⟩⟩) (fun v B hv => ?_); obtain ⟨_, p, m, rfl, rfl, hm⟩ | ⟨hno, _⟩ := hv)
  rotate_left
  · exact absurd aoX_ok hno
  have hk : MmOk m.abs := by rw [hm]; exact newM_ok aoX_ok
  have hram : m.abs.ram.length = 32 := by rw [hm]; rfl
  clear hm
  (repeat (first | (refine i_dst ?_; (first | (refine i_move ?_; refine l_q rfl rfl rfl (q_move rfl) ?_) | (refine i_assign ?_; refine l_q rfl rfl rfl (q_assign rfl) ?_) | (refine i_bin ?_; refine l_q rfl rfl rfl (by (first | exact q_neq rfl rfl | exact q_eqnil tab rfl rfl rfl)) ?_) | (refine i_blt ?_; refine l_q rfl rfl rfl (by (first | exact q_len tab rfl rfl | exact q_minN rfl rfl)) ?_) | (refine i_sl ?_; refine l_q rfl rfl rfl (by (exact q_slHi tab rfl rfl rfl rfl (by first | (with_reducible exact Int.toNat_natCast _) | (with_reducible exact Int.toNat_zero) | (with_reducible exact Int.toNat_one) | rfl) (by (omega)))) ?_) | refine l_q rfl rfl rfl (by (first | exact q_extract rfl rfl | exact q_pick_f rfl rfl)) ?_)) | refine d_seq ?_ | refine c_region ?_ | refine l_nil ?_ | (refine i_q ?_; (refine d_then ?_)) | refine c_skip ?_ | (refine i_guard ?_; (refine l_gt rfl rfl rfl ?_)) | (refine i_cond ?_; (refine c_cf rfl (by (rfl)) ?_))))
  (refine l_call1 (X := memA p m) (by first | ((repeat (first | exact Ext.head | apply Ext.tail)); done) | fail) rfl rfl Try.func24 rfl (by decide) (fun w' h => write_spec h.split hk 1 0 0 B0 (min k0 32) c0 _ (h.roOf hr0 (fun X hX => by simp at hX; simp [hX])) (by omega) (by omega) (by omega) (by omega) (by omega)) (fun v B hv => ?_); obtain ⟨m1, rfl, hm1, rfl⟩ := hv)
  have hk1' : MmOk m1.abs := by rw [hm1]; exact writeM_ok hk (by omega)
  have hram1 : m1.abs.ram.length = 32 := by rw [hm1]; exact write32 hram (by rw [List.length_take]; omega)
  clear hm1 hk hram
  (repeat (first | (refine i_dst ?_; (first | (refine i_move ?_; refine l_q rfl rfl rfl (q_move rfl) ?_) | (refine i_assign ?_; refine l_q rfl rfl rfl (q_assign rfl) ?_) | (refine i_blt ?_; refine l_q rfl rfl rfl (by (first | exact q_len tab rfl rfl | exact q_minN rfl rfl)) ?_) | (refine i_sl ?_; refine l_q rfl rfl rfl (by (exact q_slHi tab rfl rfl rfl rfl (by first | (with_reducible exact Int.toNat_natCast _) | (with_reducible exact Int.toNat_zero) | (with_reducible exact Int.toNat_one) | rfl) (by (omega)))) ?_))) | refine d_seq ?_ | refine c_region ?_ | refine l_nil ?_ | refine c_block ?_ | (refine i_q ?_; (refine d_then ?_))))
  refine d_loop (T := Nat × Value) [1, 7, 8] (fun t => [(45, .int .i64 t.1), (11, t.2), (12, .string (strOfNums (tabM' m1.abs (aoE (os.take t.1))))), (43, .slice O (min n 7) c), (44, .int .i64 ((min n 7 : Nat) : Int))]) [memA p m1] (fun t => [row 38 3 t.2 t.1 ((aoE (os.take t.1)).flatMap enC)]) (fun t => t.1 ≤ min n 7) (fun t => min n 7 - t.1) (0, .slice none 0 0) (by first | ((repeat (first | exact Pick.nil | exact rfl | apply Pick.cons)); done) | fail) (Nat.zero_le _) (by first | ((repeat (first | exact trivial | exact rfl | apply Sub.cons | exact look_int rfl (by omega) | exact look_int rfl (by simp) | exact look_int rfl (by simp; omega))); done) | fail) (fun w h => (st_nil h _ 3).psub (by first | ((repeat (first | exact PSub.nil | exact Ext.head | apply Ext.tail | apply PSub.cons)); done) | fail)) ?_
  rintro ⟨j, v⟩ hj
  dsimp only at hj ⊢
  by_cases hlt : j < min n 7
  · obtain ⟨e, hoj⟩ : ∃ e, os[j]? = some e := ⟨_, List.getElem?_eq_getElem (by omega)⟩
    have he8 := hoo e (List.mem_of_getElem? hoj)
    obtain ⟨en, rfl⟩ : ∃ en : Nat, e = en := ⟨e.toNat, by omega⟩
    have hov : (bv os)[j]? = some (.int .u8 (en : Int)) := by simp [bv, hoj]
    have hem : ((en : Int) % 32) = ((en % 32 : Nat) : Int) := by omega
    (repeat (first | (refine i_dst ?_; (first | (refine i_move ?_; refine l_q rfl rfl rfl (q_move rfl) ?_) | (refine i_assign ?_; refine l_q rfl rfl rfl (q_assign rfl) ?_) | (refine i_load ?_; refine l_q rfl rfl rfl (by (exact q_ldS tab rfl rfl rfl (by (exact fun w h => roB_src (h.ro (by assumption)))) (by (assumption)))) ?_) | (refine i_bin ?_; refine l_q rfl rfl rfl (by (first | exact q_lss rfl rfl | exact q_rem rfl rfl (by omega) (Int.tmod_eq_emod_of_nonneg (by omega)))) ?_) | (refine i_ix ?_; refine l_q rfl rfl rfl (by (exact q_ixS1 tab rfl rfl rfl rfl (by (exact fun w h => roB_src (h.ro (by assumption)))) (by first | (with_reducible exact Int.toNat_natCast _) | (with_reducible exact Int.toNat_zero) | (with_reducible exact Int.toNat_one) | rfl) (by (omega)) (by (omega)))) ?_) | (refine i_bldS ?_; refine l_bldS tab rfl rfl rfl rfl (by first | exact CellsOf.agg | exact CellsOf.one rfl) (by first | ((repeat (first | exact RepR.zero | exact AppR.nil | apply RepR.succ | apply AppR.cons)); done) | fail) (by first | ((repeat (first | exact FillR.nil | exact LSets.nil | exact LSet.zero | exact CellsOf.agg | exact rfl | exact CellsOf.one rfl | apply FillR.cons | apply LSets.cons | apply LSet.succ)); done) | fail) (fun w => by kernel_rfl) (fun _ => ?_)) | (refine l_q rfl rfl rfl (by (first | (apply iq_cv; (exact q_conv tab rfl rfl rfl (by (exact wr_u32 (by omega))))) | (apply iq_bld; ((exact q_bld tab rfl rfl rfl (by first | ((repeat (first | exact FillR.nil | exact LSets.nil | exact LSet.zero | exact CellsOf.agg | exact rfl | exact CellsOf.one rfl | apply FillR.cons | apply LSets.cons | apply LSet.succ)); done) | fail) (fun w => by kernel_rfl)))))) ?_))) | refine d_seq ?_ | refine c_region ?_ | refine l_nil ?_ | refine c_block ?_ | (refine i_q ?_; (refine d_then ?_)) | refine c_skip ?_ | (refine i_cond ?_; (refine c_ct rfl (by (exact decide_eq_true (by omega))) ?_))))
    rename_i g54
    (refine l_app tab rfl rfl rfl row3E (by first | ((repeat (first | exact Ext.head | apply Ext.tail)); done) | fail) (news := [.int .u8 1, .int .u8 0, .int .u32 ((en : Int) % 32)]) (fun w h => SrcAt.blk (h.mem (X := blk g54 _ _) (by first | ((repeat (first | exact List.Mem.head _ | apply List.Mem.tail)); done) | fail)) rfl) (by simp [Value.oneCell']) (by omega) (by omega) (fun A5 c5 hA1 hA2 => ?_))
    (repeat (first | (refine i_dst ?_; (first | (refine i_move ?_; refine l_q rfl rfl rfl (q_move rfl) ?_) | (refine i_assign ?_; refine l_q rfl rfl rfl (q_assign rfl) ?_) | (refine i_bin ?_; refine l_q rfl rfl rfl (by (exact q_rem rfl rfl (by omega) (Int.tmod_eq_emod_of_nonneg (by omega)))) ?_) | (refine l_q rfl rfl rfl (by ((apply iq_cv; (exact q_conv tab rfl rfl rfl (by (exact wr_u32 (by omega))))))) ?_))) | refine d_seq ?_ | refine c_region ?_ | refine l_nil ?_ | (refine i_q ?_; (refine d_then ?_))))
    rw [hem]
    (refine l_call0 rfl rfl Try.func19 rfl (by decide) (fun w' h => read_spec (m := m1) (Ro.empty (h.mem (by first | ((repeat (first | exact List.Mem.head _ | apply List.Mem.tail)); done) | fail))) hk1' 1 0 (en % 32 : Nat) 1 (by omega) (by omega) (by omega) (by omega) (by omega)) (fun v B hv => ?_); obtain ⟨A6, c6, rfl, rfl⟩ := hv)
    obtain ⟨rb, hrb, hrl⟩ : ∃ rb, readM m1.abs 1 0 (en % 32 : Nat) 1 = (rb, 0) ∧ rb.length ≤ 1 := ⟨_, read32 hram1 (by omega), by rw [List.length_take]; omega⟩
    have het := ent32 hram1 (a := en % 32) (by omega)
    rw [hrb] at het ⊢
    dsimp only at het ⊢
    have etk : tabM' m1.abs (aoE (os.take (j + 1))) = tabM' m1.abs (aoE (os.take j)) ++ rb := by
      rw [aoE_take hoj, tabM', List.flatMap_append, ← het]
      simp [tabM']
    have etc : (aoE (os.take (j + 1))).flatMap enC = (aoE (os.take j)).flatMap enC ++ [.int .u8 1, .int .u8 0, .int .u32 ((en % 32 : Nat) : Int)] := by
      rw [aoE_take hoj, List.flatMap_append]
      simp [enC]
    have hl7 : (tabM' m1.abs (aoE (os.take j))).length + rb.length ≤ 9223372036854775807 := by
      have := tabM'_len m1.abs (t := aoE (os.take j)) (fun e he => by
        rw [aoE] at he
        obtain ⟨v, _, rfl⟩ := List.mem_map.1 he
        show (1 : Nat) ≤ 255
        omega)
      have h2 : (aoE (os.take j)).length ≤ j := by rw [aoE, List.length_map, List.length_take]; omega
      omega
    (repeat (first | (refine i_dst ?_; (first | (refine i_move ?_; refine l_q rfl rfl rfl (q_move rfl) ?_) | (refine i_assign ?_; refine l_q rfl rfl rfl (q_assign rfl) ?_) | (refine i_bin ?_; refine l_q rfl rfl rfl (by (exact q_neq rfl rfl)) ?_) | (refine l_q rfl rfl rfl (by (first | exact q_extract rfl rfl | (apply iq_cv; ((exact q_str tab rfl rfl rfl rfl (fun w h => roB_of (h.mem (by first | ((repeat (first | exact List.Mem.head _ | apply List.Mem.tail)); done) | fail)))))))) ?_))) | refine d_seq ?_ | refine c_region ?_ | refine l_nil ?_ | (refine i_q ?_; (refine d_then ?_)) | refine c_skip ?_ | (refine i_cond ?_; (refine c_cf rfl (by (rfl)) ?_))))
    refine l_q rfl rfl rfl (q_adds rfl rfl hl7) ?_
    (repeat (first | (refine i_dst ?_; (first | (refine i_move ?_; refine l_q rfl rfl rfl (q_move rfl) ?_) | (refine i_assign ?_; refine l_q rfl rfl rfl (q_assign rfl) ?_) | (refine i_bin ?_; refine l_q rfl rfl rfl (by (exact q_add rfl rfl (by (exact wr_i64 (by omega))))) ?_))) | refine c_region ?_ | refine l_nil ?_ | (refine i_q ?_; (first | refine d_then ?_ | refine t_then ?_ | refine t_block ?_))))
    exact k_again (j + 1, .slice A5 (j + 1) c5) (by dsimp only; omega) (by dsimp only; omega) (by dsimp only; rw [etk]; exact (by first | ((repeat (first | exact trivial | exact rfl | apply Sub.cons | exact look_int rfl (by omega) | exact look_int rfl (by simp) | exact look_int rfl (by simp; omega))); done) | fail)) (fun w h => by dsimp only; rw [etc]; exact h.psub (by first | ((repeat (first | exact PSub.nil | exact Ext.head | apply Ext.tail | apply PSub.cons)); done) | fail))
  · obtain rfl : j = min n 7 := by omega
    refine c_fact (p := ∃ A cA, v = .slice A (min n 7) cA ∧ min n 7 ≤ cA ∧ cA ≤ maxLen) (fun w h => ?_) ?_
    · obtain ⟨A, cA, e1, e2, e3, -⟩ := row_slice (h.get (i := 0) rfl)
      exact ⟨A, cA, e1, e2, e3⟩
    rintro ⟨A, cA, rfl, hA1, hA2⟩
    have hol7 : (os.take (min n 7)).length = min n 7 := by rw [List.length_take]; omega
    (repeat (first | (refine i_dst ?_; (first | (refine i_move ?_; refine l_q rfl rfl rfl (q_move rfl) ?_) | (refine i_load ?_; refine l_q rfl rfl rfl (by ((exact q_ldN tab rfl rfl rfl rfl (by first | ((repeat (first | exact List.Mem.head _ | apply List.Mem.tail)); done) | fail) (by first | ((repeat (first | exact TakeR.nil | apply TakeR.cons | apply CutR.zero | apply CutR.skip)); done) | fail)))) ?_) | (refine i_bin ?_; refine l_q rfl rfl rfl (by (exact q_lss rfl rfl)) ?_) | (refine i_alloc ?_; (refine l_allocA tab rfl rfl (fun _ => ?_))) | (refine i_bldS ?_; refine l_bldS tab rfl rfl rfl rfl (by first | exact CellsOf.agg | exact CellsOf.one rfl) (by first | ((repeat (first | exact RepR.zero | exact AppR.nil | apply RepR.succ | apply AppR.cons)); done) | fail) (by first | ((repeat (first | exact FillR.nil | exact LSets.nil | exact LSet.zero | exact CellsOf.agg | exact rfl | exact CellsOf.one rfl | apply FillR.cons | apply LSets.cons | apply LSet.succ)); done) | fail) (fun w => by kernel_rfl) (fun _ => ?_)) | (refine l_q rfl rfl rfl (by ((apply iq_bld; ((exact q_bld tab rfl rfl rfl (by first | ((repeat (first | exact FillR.nil | exact LSets.nil | exact LSet.zero | exact CellsOf.agg | exact rfl | exact CellsOf.one rfl | apply FillR.cons | apply LSets.cons | apply LSet.succ)); done) | fail) (fun w => by kernel_rfl)))))) ?_))) | refine d_seq ?_ | refine c_region ?_ | refine l_nil ?_ | (refine i_q ?_; (first | refine d_then ?_ | refine d_then_exit ?_ | refine t_then_exit ?_ | refine t_block_eq rfl ?_)) | refine c_exit ?_ | (refine i_store ?_; ((refine l_setN tab rfl rfl rfl rfl (List.cons_ne_nil _ _) rfl (by first | ((repeat (first | exact Upd.head | apply Upd.tail)); done) | fail) (by first | ((repeat (first | exact LSets.nil | exact LSet.zero | apply LSets.cons | apply LSet.succ)); done) | fail) ?_))) | (refine i_cond ?_; ((refine c_cf rfl (by (((first | (simp; done) | fail)))) ?_)))))
    rename_i g73 g74 g17
    (refine l_call0 rfl rfl Try.func43 rfl (by decide) (fun w' h => sample_spec (m := m1) (Ro.empty (h.mem (by first | ((repeat (first | exact List.Mem.head _ | apply List.Mem.tail)); done) | fail))) hk1' _ (aoL (os.take (min n 7))) (ao_in hol7 hA1 hA2 (Ro.empty (h.mem (X := row 38 3 _ _ _) (by first | ((repeat (first | exact List.Mem.head _ | apply List.Mem.tail)); done) | fail))) (Ro.empty (h.mem (X := blk g73 _ _) (by first | ((repeat (first | exact List.Mem.head _ | apply List.Mem.tail)); done) | fail))) (Ro.empty (h.mem (X := blk g74 _ _) (by first | ((repeat (first | exact List.Mem.head _ | apply List.Mem.tail)); done) | fail)))) ⟨by simp [aoL], fun t ht => by simp [aoL] at ht; rcases ht with rfl | rfl <;> simp [aoE] <;> omega⟩) (fun v B hv => ?_); obtain ⟨A5, c5, xs, rfl, rfl, hxs⟩ := hv)
    have hsm : sampleM m1.abs (aoL (os.take (min n 7))) = [(3, tabM' m1.abs (aoE (os.take (min n 7)))), (4, [0, 0])] := by
      rw [← ent31 hram1]
      simp [sampleM, aoL, tabM']
      exact ⟨rfl, rfl⟩
    rw [hsm] at hxs
    generalize tabM' m1.abs (aoE (os.take (min n 7))) = want at hxs ⊢
    rcases xs with _ | ⟨⟨xc, xv, xb⟩, _ | ⟨⟨yc, yv, yb⟩, _ | ⟨z, xs⟩⟩⟩
    · simp at hxs
    · simp at hxs
    · simp at hxs
      obtain ⟨⟨rfl, rfl⟩, rfl, rfl⟩ := hxs
      refine l_hp (hp' := [bytesA xv xb, bytesA yv [0, 0], row 46 3 (.slice A5 2 c5) 2 ([(⟨3, xv, xb⟩ : RepV), ⟨4, yv, [0, 0]⟩].flatMap repCells), memA p m1]) (fun w h => ?_) ?_
      · have h1 := st_unstar (h.ext (X := starL _) (by first | ((repeat (first | exact Ext.head | apply Ext.tail)); done) | fail))
        unfold repB at h1
        exact h1.psub (by first | ((repeat (first | exact PSub.nil | exact Ext.head | apply Ext.tail | apply PSub.cons)); done) | fail)
      refine l_fact (p := (∃ Ax cx, xv = .slice Ax xb.length cx) ∧ (∃ Ay cy, yv = .slice Ay 2 cy)) (fun w h => ?_) ?_
      · obtain ⟨Ax, cx, e1, -⟩ := bytesA_ro (h.get (i := 0) rfl)
        obtain ⟨Ay, cy, e2, -⟩ := bytesA_ro (h.get (i := 1) rfl)
        exact ⟨⟨Ax, cx, e1⟩, Ay, cy, e2⟩
      rintro ⟨⟨Ax, cx, rfl⟩, Ay, cy, rfl⟩
      have hst : ((strOfNums xb).toList == (strOfNums xb).toList) = true := by simp
      dsimp only [List.length_cons, List.length_nil]
      (repeat (first | (refine i_dst ?_; (first | (refine i_move ?_; refine l_q rfl rfl rfl (q_move rfl) ?_) | (refine i_assign ?_; refine l_q rfl rfl rfl (q_assign rfl) ?_) | (refine i_blt ?_; refine l_q rfl rfl rfl (by (first | exact q_len tab rfl rfl | exact q_minN rfl rfl)) ?_) | (refine i_sl ?_; refine l_q rfl rfl rfl (by (exact q_slHi tab rfl rfl rfl rfl (by first | (with_reducible exact Int.toNat_natCast _) | (with_reducible exact Int.toNat_zero) | (with_reducible exact Int.toNat_one) | rfl) (by (omega)))) ?_))) | refine d_seq ?_ | refine c_region ?_ | refine l_nil ?_ | (refine i_q ?_; (refine d_then ?_))))
      (refine l_call1 (X := memA p m1) (by first | ((repeat (first | exact Ext.head | apply Ext.tail)); done) | fail) rfl rfl Try.func24 rfl (by decide) (fun w' h => write_spec h.split hk1' 1 0 0 B1 (min k1 32) c1 _ (h.roOf hr1 (fun X hX => by simp at hX; simp [hX])) (by omega) (by omega) (by omega) (by omega) (by omega)) (fun v B hv => ?_); obtain ⟨m2, rfl, hm2, rfl⟩ := hv)
      (repeat (first | (refine i_dst ?_; (first | (refine i_move ?_; refine l_q rfl rfl rfl (q_move rfl) ?_) | (refine i_assign ?_; refine l_q rfl rfl rfl (q_assign rfl) ?_) | (refine i_load ?_; refine l_q rfl rfl rfl (by ((exact q_ldS tab rfl rfl rfl (by ((exact fun w h => row_src (h.mem (by first | ((repeat (first | exact List.Mem.head _ | apply List.Mem.tail)); done) | fail))))) (by (rfl))))) ?_) | (refine i_bin ?_; refine l_q rfl rfl rfl (by (first | exact q_eql rfl rfl | exact q_eqs rfl rfl)) ?_) | (refine i_blt ?_; refine l_q rfl rfl rfl (by (exact q_len tab rfl rfl)) ?_) | (refine i_ix ?_; refine l_q rfl rfl rfl (by ((exact q_ixSN tab rfl rfl rfl rfl (by ((exact fun w h => row_src (h.mem (by first | ((repeat (first | exact List.Mem.head _ | apply List.Mem.tail)); done) | fail))))) (by first | (with_reducible exact Int.toNat_natCast _) | (with_reducible exact Int.toNat_zero) | (with_reducible exact Int.toNat_one) | rfl) (by (omega)) (by (omega))))) ?_) | (refine l_q rfl rfl rfl (by (first | (apply iq_fld; ((exact q_fldS tab rfl rfl rfl rfl rfl rfl rfl (by ((exact fun w h => row_src (h.mem (by first | ((repeat (first | exact List.Mem.head _ | apply List.Mem.tail)); done) | fail))))) (by (omega))))) | (apply iq_cv; ((exact q_str tab rfl rfl rfl rfl (fun w h => roB_of (h.mem (by first | ((repeat (first | exact List.Mem.head _ | apply List.Mem.tail)); done) | fail)))))) | exact q_pick_t rfl rfl)) ?_))) | refine d_seq ?_ | refine c_region ?_ | refine l_nil ?_ | (refine i_q ?_; (refine d_then ?_)) | refine c_ret ?_ | (refine i_guard ?_; (first | refine l_gt rfl rfl rfl ?_ | refine l_gtd rfl rfl rfl (by (assumption)) ?_))))
      have hst2 : ((strOfNums [0, 0]).toList == (⟨#[0, 0]⟩ : ByteArray).toList) = true := by rw [ByteArray.toList_eq, ByteArray.toList_eq]; rfl
      rw [hst2]
      exact t_ret1 Try.results12 rfl rfl
    · simp at hxs
end Go.Proofs.Ytkeekkdaielipaa

/-
  Layer 8, the statements' helpers: strings of bytes, few, does.
-/
import Derived.Test.YtecnodkjjpjglaaM8
import Derived.Laws.BytesArg
set_option linter.unusedVariables false
set_option maxRecDepth 100000
namespace Go.Proofs.Ytecnodkjjpjglaa
open Go.RowKit
attribute [local irreducible] TL TC TQ TK TO Qt TA


theorem roB_of {A : Option Addr} {n c : Nat} {l : List Int} {w : World} (h : (bytesA (.slice A n c) l).C w) : (roB A n l).C w := by
  obtain ⟨A', c', h1, _, _, h2, _⟩ := bytesA_ro h
  injection h1 with h1 h3 h4
  subst h1 h3
  exact h2
theorem run_conv {P : Program} {w : World} {A : Option Addr} {n : Nat} {l : List Int} (h : (roB A n l).C w) (src e dst c : Nat) (hs : P.underlying src = some (.slice e)) (he : P.underlying e = some (.int .u8)) (hd : P.underlying dst = some .string) :
    (convert src dst (.slice A n c)).run P w = .ok (.string (strOfNums l)) w := by
  rcases Nat.eq_zero_or_pos n with rfl | hn
  · have : l = [] := List.eq_nil_of_length_eq_zero h.1
    subst this
    rcases A with _ | ⟨b, off, spot⟩
    · exact run_convert_bytes_nil w src e hs he 0 c dst hd
    · rw [run_convert_bytes_string w src dst e _ 0 c hs he hd, run_bytesToString w ⟨b, off, spot⟩ 0 c [] (by simp [loadCells, loadCellsFrom])]
      rfl
  · obtain ⟨b, off, rfl, _, hc⟩ := h.2.2 hn
    exact run_convert_bytes_arg w src e hs he b off n c l h.1 (fun i hi => hc i _ (bv_get (by rw [h.1]; exact hi))) dst hd
section
variable {P : Program} {S : Nat → Prop} {w0 : World} {env : Env} {hp : List Asn} {d : Option Tmp} {ty : TypeId} {pos : String} {af : Array Edge} {g : Option (Nat × Bool)}
theorem q_str (T : Tab P) {src dst e : TypeId} {x : Operand} {A : Option Addr} {n c : Nat} {l : List Int} (hx : ev env x = some (.slice A n c)) (hs : T.u src = some (.slice e)) (he : T.u e = some (.int .u8)) (hd : T.u dst = some .string) (hb : ∀ w, St S w0 hp w → (roB A n l).C w) : Qt P S w0 ⟨d, .convert src dst x, ty, pos, af, g⟩ env hp (.string (strOfNums l)) := by
  unfold Qt
  intro n a w hE hS
  simp [execOp, hE.ev hx, run_conv (hb w hS) src e dst c (T.U hs) (T.U he) (T.U hd)]
end
theorem strs_inj : ∀ {a b : List Int}, Oct a → Oct b → a.map (fun n => UInt8.ofNat n.toNat) = b.map (fun n => UInt8.ofNat n.toNat) → a = b
  | [], [], _, _, _ => rfl
  | [], _ :: _, _, _, h => by simp at h
  | _ :: _, [], _, _, h => by simp at h
  | x :: a, y :: b, ha, hb, h => by
    simp only [List.map_cons, List.cons.injEq] at h
    have h1 := congrArg UInt8.toNat h.1
    simp at h1
    have hx := ha x (by simp)
    have hy := hb y (by simp)
    rw [show x = y by omega, strs_inj (fun z hz => ha z (by simp [hz])) (fun z hz => hb z (by simp [hz])) h.2]
theorem str_beq {a b : List Int} (ha : Oct a) (hb : Oct b) : ((strOfNums a).toList == (strOfNums b).toList) = decide (a = b) := by
  rw [ByteArray.toList_eq, ByteArray.toList_eq, strOfNums_data, strOfNums_data, Bool.eq_iff_iff, beq_iff_eq, decide_eq_true_eq]
  exact ⟨strs_inj ha hb, fun h => by rw [h]⟩

theorem min_int (a b : Nat) : (if (b : Int) < (a : Int) then (b : Int) else (a : Int)) = ((min a b : Nat) : Int) := by
  split <;> omega
/-! ### What is done -/
structure ActI where
  kind : Nat
  who : Nat
  area : Nat
  at_ : Nat
  n : Int
  m : Int
  b : List Int
def doesM (M : Mm) (a : ActI) : Mm × List Int × Int × Int :=
  if a.kind % 5 = 0 then (M, (readM M a.who a.area a.at_ a.n).1, 0, (readM M a.who a.area a.at_ a.n).2)
  else if a.kind % 5 = 1 then ((writeM M a.who a.area a.at_ (a.b.take 300)).1, [], 0, (writeM M a.who a.area a.at_ (a.b.take 300)).2)
  else if a.kind % 5 = 2 then ((setM M a.who a.area a.m).1, [], 0, (setM M a.who a.area a.m).2)
  else if a.kind % 5 = 3 then ((copyM M a.area a.n a.m).1, [], 0, (copyM M a.area a.n a.m).2)
  else (M, [], (pageM M a.who a.area).1, (pageM M a.who a.area).2)
theorem setSeg_ok {M : Mm} {k : Nat} {s : Seg} (hk : MmOk M) (hs : SegOk s) : MmOk { M with segs := M.segs.set k s } :=
  ⟨hk.ram, by simpa using hk.n4, fun t ht => by
    rcases List.mem_or_eq_of_mem_set ht with h | h
    · exact hk.segs t h
    · subst h; exact hs⟩
theorem setM_ok {M : Mm} {who : Nat} {seg page : Int} (hk : MmOk M) : MmOk (setM M who seg page).1 := by
  unfold setM
  split
  · exact hk
  · split
    · exact hk
    · rename_i s hs
      obtain ⟨h0, h1, h2⟩ := there_get hs
      have hso := hk.segs s (List.mem_of_getElem? h1)
      have hp := h2 page (by simp)
      have := hso.h0
      have := hso.h1
      refine setSeg_ok hk ⟨?_, ?_, hso.n4, hso.l1, hso.l2, hso.len⟩
      · show (if who = 2 then s.s0 else page.toNat) < s.dat.length
        split <;> omega
      · show (if who = 1 then s.s1 else page.toNat) < s.dat.length
        split <;> omega
theorem copyM_ok {M : Mm} {seg from_ to : Int} (hk : MmOk M) : MmOk (copyM M seg from_ to).1 := by
  unfold copyM
  split
  · exact hk
  · rename_i s hs
    split
    · exact hk
    · obtain ⟨h0, h1, h2⟩ := there_get hs
      have hso := hk.segs s (List.mem_of_getElem? h1)
      have hf := h2 from_ (by simp)
      refine setSeg_ok hk ⟨by simpa using hso.h0, by simpa using hso.h1, by simpa using hso.n4, hso.l1, hso.l2, fun l hl => ?_⟩
      rcases List.mem_or_eq_of_mem_set hl with h | h
      · exact hso.len l h
      · subst h
        have hlt : from_.toNat < s.dat.length := by omega
        rw [List.getD_eq_getElem?_getD, List.getElem?_eq_getElem hlt]
        exact hso.len _ (List.getElem_mem hlt)
theorem doesM_ok {M : Mm} {a : ActI} (hk : MmOk M) : MmOk (doesM M a).1 := by
  unfold doesM
  split
  · exact hk
  · split
    · exact writeM_ok hk (by omega)
    · split
      · exact setM_ok hk
      · split
        · exact copyM_ok hk
        · exact hk
/-- An act: its value, and what it holds. -/
structure InAct (S : Nat → Prop) (w0 : World) (v : List Value) (a : ActI) : Prop where
  is : ∃ A k c, v = [.int .u8 a.kind, .int .u8 a.who, .int .u8 a.area, .int .u32 a.at_, .int .i64 a.n, .int .i64 a.m, .slice A k c] ∧ Ro S w0 (roB A k a.b) ∧ k ≤ c ∧ c ≤ maxLen
  kind : a.kind ≤ 255
  who : a.who ≤ 255
  area : a.area ≤ 255
  at_ : a.at_ ≤ 4294967295
  n : -9223372036854775808 ≤ a.n ∧ a.n ≤ 9223372036854775807
  m : -9223372036854775808 ≤ a.m ∧ a.m ≤ 9223372036854775807
theorem roB_take {A : Option Addr} {n k : Nat} {l : List Int} {w : World} (h : (roB A n l).C w) (hk : k ≤ n) : (roB A k (l.take k)).C w := by
  refine ⟨by rw [List.length_take, h.1]; omega, h.2.1.take k, fun hk0 => ?_⟩
  obtain ⟨b, o, h1, h2, h3⟩ := h.2.2 (by omega)
  refine ⟨b, o, h1, h2, fun j u hu => h3 j u ?_⟩
  have hj : j < k := by
    have := (List.getElem?_eq_some_iff.1 hu).1
    rw [length_bv, List.length_take] at this
    omega
  rw [← hu]
  simp [bv, hj]
theorem Ro.take {S : Nat → Prop} {w0 : World} {A : Option Addr} {n k : Nat} {l : List Int} (h : Ro S w0 (roB A n l)) (hk : k ≤ n) : Ro S w0 (roB A k (l.take k)) :=
  h.sub (fun h => roB_take h hk) (fun b ⟨h1, h2⟩ => ⟨by omega, h2⟩)
def DoesR (p : Nat) (r : Mm × List Int × Int × Int) (v : Value) (B : List Asn) : Prop :=
  ∃ m' A c, v = .tuple #[.slice A r.2.1.length c, .int .i64 r.2.2.1, .int .i64 r.2.2.2] ∧ B = [memA p m', bytesA (.slice A r.2.1.length c) r.2.1] ∧ m'.abs = r.1
theorem st_nilB {S : Nat → Prop} {w0 w : World} {hp : List Asn} (h : St S w0 hp w) : St S w0 (bytesA (.slice none 0 0) [] :: hp) w := h.new (Kept.refl _ _) ⟨Oct.nil, World.ownsRow_nil _ _ _ _⟩ (fun b hb => by cases hb)
attribute [local irreducible] blk row bytesA starL memA segA roB


set_option maxHeartbeats 8000000 in
theorem does_spec {p : Nat} {m : MemV} {w : World} (hA : Hold [memA p m] w) (hk : MmOk m.abs) (v : List Value) (a : ActI) (ha : InAct (fps [memA p m]) w v a) :
    Calls Try.prog 17 #[.pointer (some ⟨p, 0, none⟩), .agg v.toArray] w (Ret w [memA p m] (DoesR p (doesM m.abs a))) := by
  obtain ⟨A, k, c, rfl, hr, hkc, hcm⟩ := ha.is
  obtain ⟨_, a1, a2, a3, a4, a5, a6⟩ := ha
  refine enter (vs := [.pointer (some ⟨p, 0, none⟩), .agg #[.int .u8 a.kind, .int .u8 a.who, .int .u8 a.area, .int .u32 a.at_, .int .i64 a.n, .int .i64 a.m, .slice A k c]]) Try.func17 rfl Try.ntmps17 rfl hA ?_
  have hbl := roB_len hr.is
  unfold maxLen at hcm
  (repeat (first | refine c_seq (fun K hK => ?_) | refine c_region ?_))
  refine l_op rfl (fun K hK => e_box rfl rfl rfl (fun b3 => hK _ _ ?_))
  clear hK
  by_cases k0 : a.kind % 5 = 0
  · have e0 : doesM m.abs a = (m.abs, (readM m.abs a.who a.area a.at_ a.n).1, 0, (readM m.abs a.who a.area a.at_ a.n).2) := by rw [doesM, if_pos k0]
    (repeat (first | (refine i_dst ?_; (first | (refine i_move ?_; refine l_q rfl rfl rfl (q_move rfl) ?_) | (refine i_assign ?_; refine l_q rfl rfl rfl (q_assign rfl) ?_) | (refine i_load ?_; refine l_q rfl rfl rfl (by (exact q_load tab rfl rfl rfl (fun w h => blk_cell (h.get (i := 0) rfl) rfl))) ?_) | (refine i_bin ?_; refine l_q rfl rfl rfl (by (first | exact q_eql rfl rfl | exact q_rem rfl rfl (by omega) (Int.tmod_eq_emod_of_nonneg (by omega)))) ?_) | refine l_q rfl rfl rfl (by (exact q_fieldAddr tab rfl rfl rfl rfl rfl rfl rfl)) ?_)) | refine c_seq (fun K hK => ?_) | refine c_region ?_ | refine l_nil ?_ | refine t_then ?_ | (refine i_k ?_; (((refine hK _ _ ?_; clear hK)))) | refine c_block ?_ | (refine i_cond ?_; (refine c_ct rfl (by (exact decide_eq_true (by omega))) ?_))))
    (refine l_op rfl (fun K hK => e_call0 rfl rfl Try.func26 rfl (by decide) (fun w' h => read_spec (roHp0 h (i := 1) rfl) hk a.who a.area a.at_ a.n a2 a3 a5 (by omega) (by omega)) (fun v B hv => hK _ _ ?_)); clear hK; obtain ⟨A2, c2, rfl, rfl⟩ := hv)
    (repeat (first | (refine i_dst ?_; (first | (refine i_move ?_; refine l_q rfl rfl rfl (q_move rfl) ?_) | (refine i_assign ?_; refine l_q rfl rfl rfl (q_assign rfl) ?_) | refine l_q rfl rfl rfl (by (exact q_extract rfl rfl)) ?_)) | refine c_seq (fun K hK => ?_) | refine c_region ?_ | refine l_nil ?_ | refine t_then ?_ | (refine i_k ?_; (((refine hK _ _ ?_; clear hK)))) | (refine i_q ?_; (first | refine t_then_ret ?_ | refine t_block_ret ?_)) | refine c_ret ?_))
    exact t_hp (fun w h => h.pick [2, 0] rfl) (t_ret3 Try.results17 rfl rfl rfl ⟨m, A2, c2, by rw [e0], by rw [e0]; rfl, by rw [e0]⟩)
  · by_cases k1 : a.kind % 5 = 1
    · have e0 : doesM m.abs a = ((writeM m.abs a.who a.area a.at_ (a.b.take 300)).1, [], 0, (writeM m.abs a.who a.area a.at_ (a.b.take 300)).2) := by rw [doesM, if_neg k0, if_pos k1]
      have mn1 := min_int k 300
      have hrt := hr.take (k := min k 300) (by omega)
      have e3 : a.b.take (min k 300) = a.b.take 300 := by
        by_cases h : k ≤ 300
        · rw [List.take_of_length_le (by omega), List.take_of_length_le (by omega)]
        · rw [Nat.min_eq_right (by omega)]
      rw [e3] at hrt
      (repeat (first | (refine i_dst ?_; (first | (refine i_assign ?_; refine l_q rfl rfl rfl (q_assign rfl) ?_) | (refine i_load ?_; refine l_q rfl rfl rfl (by (exact q_load tab rfl rfl rfl (fun w h => blk_cell (h.get (i := 0) rfl) rfl))) ?_) | (refine i_bin ?_; refine l_q rfl rfl rfl (by (first | exact q_eql rfl rfl | exact q_rem rfl rfl (by omega) (Int.tmod_eq_emod_of_nonneg (by omega)))) ?_) | refine l_q rfl rfl rfl (by (exact q_fieldAddr tab rfl rfl rfl rfl rfl rfl rfl)) ?_)) | refine c_seq (fun K hK => ?_) | refine c_region ?_ | refine l_nil ?_ | refine t_then ?_ | (refine i_k ?_; (((refine hK _ _ ?_; clear hK)))) | refine c_block ?_ | (refine i_cond ?_; (first | refine c_ct rfl (by (exact decide_eq_true (by omega))) ?_ | refine c_cf rfl (by (exact decide_eq_false (by omega))) ?_))))
      refine a_begin mixed [blk b3 [.int .u8 a.kind, .int .u8 a.who, .int .u8 a.area, .int .u32 a.at_, .int .i64 a.n, .int .i64 a.m, .slice A k c] 39] 18 rfl (fun w h => h.pick [0] rfl) ?_
      ((refine a_q 0 rfl rfl rfl rfl rfl (by decide +kernel) (q_move rfl) ?_; refine a_q 1 rfl rfl rfl rfl rfl (by decide +kernel) (by (exact q_fieldAddr tab rfl rfl rfl rfl rfl rfl rfl)) ?_; (refine a_q 2 rfl rfl rfl rfl rfl (by decide +kernel) (by (exact q_load tab rfl rfl rfl (fun w h => blk_cell (h.get (i := 0) rfl) rfl))) ?_); refine a_q 3 rfl rfl rfl rfl rfl (by decide +kernel) (by (exact q_fieldAddr tab rfl rfl rfl rfl rfl rfl rfl)) ?_; (refine a_q 4 rfl rfl rfl rfl rfl (by decide +kernel) (by (exact q_load tab rfl rfl rfl (fun w h => blk_cell (h.get (i := 0) rfl) rfl))) ?_); refine a_q 5 rfl rfl rfl rfl rfl (by decide +kernel) (by (exact q_fieldAddr tab rfl rfl rfl rfl rfl rfl rfl)) ?_; (refine a_q 6 rfl rfl rfl rfl rfl (by decide +kernel) (by (exact q_load tab rfl rfl rfl (fun w h => blk_cell (h.get (i := 0) rfl) rfl))) ?_); refine a_q 7 rfl rfl rfl rfl rfl (by decide +kernel) (by (exact q_fieldAddr tab rfl rfl rfl rfl rfl rfl rfl)) ?_; (refine a_q 8 rfl rfl rfl rfl rfl (by decide +kernel) (by (exact q_load tab rfl rfl rfl (fun w h => blk_cell (h.get (i := 0) rfl) rfl))) ?_); refine a_q 9 rfl rfl rfl rfl rfl (by decide +kernel) (by (exact q_fieldAddr tab rfl rfl rfl rfl rfl rfl rfl)) ?_; (refine a_q 10 rfl rfl rfl rfl rfl (by decide +kernel) (by (exact q_load tab rfl rfl rfl (fun w h => blk_cell (h.get (i := 0) rfl) rfl))) ?_); refine a_q 11 rfl rfl rfl rfl rfl (by decide +kernel) (by (exact q_len tab rfl rfl)) ?_; refine a_q 12 rfl rfl rfl rfl rfl (by decide +kernel) (by (exact q_min rfl rfl mn1)) ?_; refine a_q 13 rfl rfl rfl rfl rfl (by decide +kernel) (by (exact q_sliceHi tab rfl rfl rfl rfl (by omega))) ?_))
      refine a_e 14 rfl (by decide +kernel) rfl (fun K hK => e_call (A := [memA p m]) rfl rfl Try.func27 rfl (by decide) (fun w h => h.pick [1, 0] rfl) (fun w' h => write_spec (h.split (A := [memA p m])) hk a.who a.area a.at_ A (min k 300) c (a.b.take 300) (h.roOf hrt (fun X hX => by simp at hX; simp [hX])) (by omega) a2 a3 (by omega) (by omega)) (fun v B hv => hK _ _ ?_ ?_))
      · obtain ⟨m', rfl, hm', rfl⟩ := hv
        exact fun w h => h.pick [1] rfl
      clear hK
      obtain ⟨m', rfl, hm', rfl⟩ := hv
      ((refine a_q 15 rfl rfl rfl rfl rfl (by decide +kernel) (q_assign rfl) ?_; refine a_q 16 rfl rfl rfl rfl rfl (by decide +kernel) (q_assign rfl) ?_; refine a_q 17 rfl rfl rfl rfl rfl (by decide +kernel) (q_assign rfl) ?_))
      refine a_done (by decide +kernel) ?_
      (repeat (first | refine t_then ?_ | (refine i_k ?_; (((refine hK _ _ ?_; clear hK)))) | (refine i_q ?_; (first | refine t_then_ret ?_ | refine t_block_ret ?_)) | refine c_ret ?_))
      exact t_hp (fun w h => (st_nilB h).pick [1, 0] rfl) (t_ret3 Try.results17 rfl rfl rfl ⟨m', none, 0, by rw [e0]; rfl, by rw [e0]; rfl, by rw [e0, hm']⟩)
    · by_cases k2 : a.kind % 5 = 2
      · have e0 : doesM m.abs a = ((setM m.abs a.who a.area a.m).1, [], 0, (setM m.abs a.who a.area a.m).2) := by rw [doesM, if_neg k0, if_neg k1, if_pos k2]
        (repeat (first | (refine i_dst ?_; (first | (refine i_move ?_; refine l_q rfl rfl rfl (q_move rfl) ?_) | (refine i_assign ?_; refine l_q rfl rfl rfl (q_assign rfl) ?_) | (refine i_load ?_; refine l_q rfl rfl rfl (by (exact q_load tab rfl rfl rfl (fun w h => blk_cell (h.get (i := 0) rfl) rfl))) ?_) | (refine i_bin ?_; refine l_q rfl rfl rfl (by (first | exact q_eql rfl rfl | exact q_rem rfl rfl (by omega) (Int.tmod_eq_emod_of_nonneg (by omega)))) ?_) | refine l_q rfl rfl rfl (by (first | exact q_fieldAddr tab rfl rfl rfl rfl rfl rfl rfl | exact q_conv tab rfl rfl rfl (by (exact wr_i64 (by omega))))) ?_)) | refine c_seq (fun K hK => ?_) | refine c_region ?_ | refine l_nil ?_ | refine t_then ?_ | (refine i_k ?_; (((refine hK _ _ ?_; clear hK)))) | refine c_block ?_ | (refine i_cond ?_; (first | refine c_ct rfl (by (exact decide_eq_true (by omega))) ?_ | refine c_cf rfl (by (exact decide_eq_false (by omega))) ?_))))
        refine l_op rfl (fun K hK => e_call (A := [memA p m]) rfl rfl Try.func25 rfl (by decide) (fun w h => h.pick [1, 0] rfl) (fun w' h => set_spec (h.split (A := [memA p m])) hk a.who a.area a.m a2) (fun v B hv => hK _ _ ?_))
        obtain ⟨m', rfl, hm', rfl⟩ := hv
        clear hK
        (repeat (first | (refine i_dst ?_; ((refine i_assign ?_; refine l_q rfl rfl rfl (q_assign rfl) ?_))) | refine l_nil ?_ | refine t_then ?_ | (refine i_k ?_; (((refine hK _ _ ?_; clear hK)))) | (refine i_q ?_; (first | refine t_then_ret ?_ | refine t_block_ret ?_)) | refine c_ret ?_))
        exact t_hp (fun w h => (st_nilB h).pick [1, 0] rfl) (t_ret3 Try.results17 rfl rfl rfl ⟨m', none, 0, by rw [e0]; rfl, by rw [e0]; rfl, by rw [e0, hm']⟩)
      · by_cases k3 : a.kind % 5 = 3
        · have e0 : doesM m.abs a = ((copyM m.abs a.area a.n a.m).1, [], 0, (copyM m.abs a.area a.n a.m).2) := by rw [doesM, if_neg k0, if_neg k1, if_neg k2, if_pos k3]
          (repeat (first | (refine i_dst ?_; (first | (refine i_move ?_; refine l_q rfl rfl rfl (q_move rfl) ?_) | (refine i_assign ?_; refine l_q rfl rfl rfl (q_assign rfl) ?_) | (refine i_load ?_; refine l_q rfl rfl rfl (by (exact q_load tab rfl rfl rfl (fun w h => blk_cell (h.get (i := 0) rfl) rfl))) ?_) | (refine i_bin ?_; refine l_q rfl rfl rfl (by (first | exact q_eql rfl rfl | exact q_rem rfl rfl (by omega) (Int.tmod_eq_emod_of_nonneg (by omega)))) ?_) | refine l_q rfl rfl rfl (by (first | exact q_fieldAddr tab rfl rfl rfl rfl rfl rfl rfl | exact q_conv tab rfl rfl rfl (by (exact wr_i64 (by omega))))) ?_)) | refine c_seq (fun K hK => ?_) | refine c_region ?_ | refine l_nil ?_ | refine t_then ?_ | (refine i_k ?_; (((refine hK _ _ ?_; clear hK)))) | refine c_block ?_ | (refine i_cond ?_; (first | refine c_ct rfl (by (exact decide_eq_true (by omega))) ?_ | refine c_cf rfl (by (exact decide_eq_false (by omega))) ?_))))
          refine l_op rfl (fun K hK => e_call (A := [memA p m]) rfl rfl Try.func28 rfl (by decide) (fun w h => h.pick [1, 0] rfl) (fun w' h => copy_spec (h.split (A := [memA p m])) hk a.area a.n a.m) (fun v B hv => hK _ _ ?_))
          obtain ⟨m', rfl, hm', rfl⟩ := hv
          clear hK
          (repeat (first | (refine i_dst ?_; ((refine i_assign ?_; refine l_q rfl rfl rfl (q_assign rfl) ?_))) | refine l_nil ?_ | refine t_then ?_ | (refine i_k ?_; (((refine hK _ _ ?_; clear hK)))) | (refine i_q ?_; (first | refine t_then_ret ?_ | refine t_block_ret ?_)) | refine c_ret ?_))
          exact t_hp (fun w h => (st_nilB h).pick [1, 0] rfl) (t_ret3 Try.results17 rfl rfl rfl ⟨m', none, 0, by rw [e0]; rfl, by rw [e0]; rfl, by rw [e0, hm']⟩)
        · have e0 : doesM m.abs a = (m.abs, [], (pageM m.abs a.who a.area).1, (pageM m.abs a.who a.area).2) := by rw [doesM, if_neg k0, if_neg k1, if_neg k2, if_neg k3]
          (repeat (first | (refine i_dst ?_; (first | (refine i_move ?_; refine l_q rfl rfl rfl (q_move rfl) ?_) | (refine i_assign ?_; refine l_q rfl rfl rfl (q_assign rfl) ?_) | (refine i_load ?_; refine l_q rfl rfl rfl (by (exact q_load tab rfl rfl rfl (fun w h => blk_cell (h.get (i := 0) rfl) rfl))) ?_) | (refine i_bin ?_; refine l_q rfl rfl rfl (by (first | exact q_eql rfl rfl | exact q_rem rfl rfl (by omega) (Int.tmod_eq_emod_of_nonneg (by omega)))) ?_) | refine l_q rfl rfl rfl (by (first | exact q_fieldAddr tab rfl rfl rfl rfl rfl rfl rfl | exact q_conv tab rfl rfl rfl (by (exact wr_i64 (by omega))))) ?_)) | refine c_seq (fun K hK => ?_) | refine c_region ?_ | refine l_nil ?_ | refine t_then ?_ | (refine i_k ?_; (((refine hK _ _ ?_; clear hK)))) | refine c_block ?_ | (refine i_q ?_; (refine t_block ?_)) | refine c_skip ?_ | (refine i_cond ?_; (refine c_cf rfl (by (exact decide_eq_false (by omega))) ?_))))
          (refine l_op rfl (fun K hK => e_call0 rfl rfl Try.func29 rfl (by decide) (fun w' h => page_spec (roHp0 h (i := 1) rfl) hk a.who a.area a2) (fun v B hv => hK _ _ ?_)); clear hK; obtain ⟨rfl, rfl⟩ := hv)
          (repeat (first | (refine i_dst ?_; (first | (refine i_move ?_; refine l_q rfl rfl rfl (q_move rfl) ?_) | (refine i_assign ?_; refine l_q rfl rfl rfl (q_assign rfl) ?_) | refine l_q rfl rfl rfl (by (exact q_extract rfl rfl)) ?_)) | refine c_seq (fun K hK => ?_) | refine c_region ?_ | refine l_nil ?_ | refine t_then ?_ | (refine i_k ?_; (((refine hK _ _ ?_; clear hK)))) | refine c_ret ?_))
          exact t_hp (fun w h => (st_nilB h).pick [2, 0] rfl) (t_ret3 Try.results17 rfl rfl rfl ⟨m, none, 0, by rw [e0]; rfl, by rw [e0]; rfl, by rw [e0]⟩)
end Go.Proofs.Ytecnodkjjpjglaa

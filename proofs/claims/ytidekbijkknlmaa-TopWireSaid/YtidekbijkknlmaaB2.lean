/-
  num.Put, num.Take (of four bytes, the greatest first), walked.
-/
import Derived.Test.YtidekbijkknlmaaB1
import Derived.Test.YtidekbijkknlmaaS5
import Derived.Test.YtidekbijkknlmaaS7
import Derived.Laws.BitsLemmas
set_option linter.unusedVariables false
set_option maxRecDepth 100000
namespace Go.Proofs.Ytidekbijkknlmaa
open Go.RowKit
attribute [local irreducible] TL TC TQ TK TO Qt TA
def le (v : Nat) : Nat → List Int
  | 0 => []
  | t + 1 => le v t ++ [((v / 256 ^ t % 256 : Nat) : Int)]
theorem le_len (v : Nat) : ∀ t, (le v t).length = t
  | 0 => rfl
  | t + 1 => by rw [le, List.length_append, le_len v t]; rfl
def be4 (v : Nat) : List Int := [((v / 256 ^ 3 % 256 : Nat) : Int), ((v / 256 ^ 2 % 256 : Nat) : Int), ((v / 256 ^ 1 % 256 : Nat) : Int), ((v / 256 ^ 0 % 256 : Nat) : Int)]
theorem be4_oct (v : Nat) : Oct (be4 v) := fun x hx => by
  simp only [be4, List.mem_cons, List.not_mem_nil, or_false] at hx
  rcases hx with rfl | rfl | rfl | rfl <;> omega
/-- The number that bytes are. -/
def beV : List Int → Nat → Nat
  | [], a => a
  | b :: l, a => beV l (a * 256 + b.toNat)
theorem beV_be4 {v : Nat} (h : v < 4294967296) : beV (be4 v) 0 = v := by
  simp only [be4, beV, Int.toNat_natCast]
  omega
theorem beV_snoc : ∀ (l : List Int) (b : Int) (a : Nat), beV (l ++ [b]) a = beV l a * 256 + b.toNat
  | [], b, a => rfl
  | x :: l, b, a => by rw [List.cons_append, beV, beV, beV_snoc l b]
theorem beV_lt {l : List Int} (h : Oct l) : beV l 0 < 256 ^ l.length := by
  have key : ∀ (l : List Int) (a k : Nat), Oct l → a < 256 ^ k → beV l a < 256 ^ (k + l.length) := fun l => by
    induction l with
    | nil => intro a k _ h; exact h
    | cons b l ih =>
      intro a k ho h
      have hb := ho b (by simp)
      have h1 : a * 256 + b.toNat < 256 ^ (k + 1) := by rw [Nat.pow_succ]; omega
      have h2 := ih _ _ (fun x hx => ho x (by simp [hx])) h1
      rw [beV, List.length_cons, show k + (l.length + 1) = k + 1 + l.length by omega]
      exact h2
  have := key l 0 0 h (by decide)
  rwa [Nat.zero_add] at this
theorem or_run {P : Program} {k c : Nat} (hk : k < 2 ^ 50) (hc : c < 256) (w : World) : (Op.intBits .or .u64 ((k * 256 : Nat) : Int) (c : Int)).run P w = .ok (.int .u64 ((k * 256 + c : Nat) : Int)) w := by
  have h1 : (BitVec.ofInt 64 ((k * 256 : Nat) : Int)) = BitVec.ofNat 64 (k * 256) := BitVec.ofInt_natCast _ _
  have h2 : (BitVec.ofInt 64 (c : Int)) = BitVec.ofNat 64 c := BitVec.ofInt_natCast _ _
  have h3 : (BitVec.ofNat 64 (k * 256) ||| BitVec.ofNat 64 c).toNat = k * 256 + c := by
    rw [BitVec.toNat_or, BitVec.toNat_ofNat, BitVec.toNat_ofNat, Nat.mod_eq_of_lt (by omega), Nat.mod_eq_of_lt (by omega)]
    have := Nat.shiftLeft_add_eq_or_of_lt (b := c) (i := 8) (by omega) k
    rw [Nat.shiftLeft_eq] at this
    exact this.symm
  show (Sem.run P (pure (Value.int IntKind.u64 (IntKind.u64.wrap ((BitVec.ofInt 64 ((k * 256 : Nat) : Int) ||| BitVec.ofInt 64 (c : Int)).toNat : Nat)))) w) = _
  rw [h1, h2, h3]
  have : IntKind.u64.wrap ((k * 256 + c : Nat) : Int) = ((k * 256 + c : Nat) : Int) := wr_u64 (by omega)
  rw [this]
  rfl
attribute [local irreducible] blk row bytesA starL memA segA roB
set_option maxHeartbeats 8000000 in
theorem nput_spec {w : World} {A : Option Addr} {n c : Nat} {l : List Int} (hr : Ro (fps []) w (roB A n l)) (hn : 0 < n ∧ n ≤ 50) (nv : Nat) (hv : nv < 4294967296) :
    Calls Try.prog 40 #[.slice A n c, .int .u64 nv, .int .i64 4, .bool true] w (Ret w [] fun r B => ∃ b c', r = .tuple #[.slice (some ⟨b, 0, none⟩) (n + 4) c', .int .i64 0] ∧ n + 4 ≤ c' ∧ c' ≤ maxLen ∧ B = [row 5 1 (.slice (some ⟨b, 0, none⟩) (n + 4) c') (n + 4) (bv (l ++ be4 nv))]) := by
  refine enter (vs := [.slice A n c, .int .u64 nv, .int .i64 4, .bool true]) Try.func40 rfl Try.ntmps40 rfl (Hold.nil w) ?_
  have hmx : maxLen = 2 ^ 63 - 1 := rfl
  (repeat (first | (refine i_dst ?_; (first | (refine i_move ?_; refine l_q rfl rfl rfl (q_move rfl) ?_) | (refine i_assign ?_; refine l_q rfl rfl rfl (q_assign rfl) ?_))) | refine d_seq ?_ | refine c_region ?_ | refine l_nil ?_ | (refine i_q ?_; (refine d_then ?_))))
  (refine l_call0 rfl rfl Try.func62 rfl (by decide) (fun w' h => width4_spec w') (fun v B hv => ?_); obtain ⟨rfl, rfl⟩ := hv)
  (repeat (first | (refine i_dst ?_; (first | (refine i_move ?_; refine l_q rfl rfl rfl (q_move rfl) ?_) | (refine i_assign ?_; refine l_q rfl rfl rfl (q_assign rfl) ?_) | refine l_q rfl rfl rfl (by (exact q_not rfl)) ?_)) | refine d_seq ?_ | refine c_region ?_ | refine l_nil ?_ | refine c_block ?_ | (refine i_q ?_; (refine d_then ?_)) | refine c_skip ?_ | (refine i_cond ?_; (refine c_cf rfl (by (rfl)) ?_))))
  refine d_loop (T := Nat × Value) [0, 3, 14] (fun t => [(15, .int .i64 t.1), (10, t.2), (1, .int .u64 (nv / 256 ^ t.1 : Nat))]) [] (fun t => [row 5 1 t.2 t.1 (bv (le nv t.1))]) (fun t => t.1 ≤ 4) (fun t => 4 - t.1) (0, .slice none 0 0) (by first | ((repeat (first | exact Pick.nil | exact rfl | apply Pick.cons)); done) | fail) (by dsimp only; omega) (by simp only [Nat.pow_zero, Nat.div_one]; exact (by first | ((repeat (first | exact trivial | exact rfl | apply Sub.cons | exact look_int rfl (by omega) | exact look_int rfl (by simp) | exact look_int rfl (by simp; omega))); done) | fail)) (fun w h => (st_nil h 5 1).psub (by first | ((repeat (first | exact PSub.nil | exact Ext.head | apply Ext.tail | apply PSub.cons)); done) | fail)) ?_
  rintro ⟨t, xv⟩ ht
  dsimp only at ht ⊢
  refine c_fact (p := ∃ Ax cx, xv = .slice Ax t cx ∧ t ≤ cx ∧ cx ≤ maxLen) (fun w h => ?_) ?_
  · obtain ⟨Ax, cx, e1, e2, e3, -⟩ := row_slice (h.get (i := 0) rfl)
    exact ⟨Ax, cx, e1, e2, e3⟩
  rintro ⟨Ax, cx, rfl, hx1, hx2⟩
  by_cases h4 : t < 4
  · obtain ⟨vt, hvt⟩ : ∃ vt, vt = nv / 256 ^ t := ⟨_, rfl⟩
    have hnext : vt / 256 = nv / 256 ^ (t + 1) := by rw [hvt, Nat.div_div_eq_div_mul, Nat.pow_succ]
    rw [← hvt]
    (repeat (first | (refine i_dst ?_; (first | (refine i_move ?_; refine l_q rfl rfl rfl (q_move rfl) ?_) | (refine i_bin ?_; refine l_q rfl rfl rfl (by (exact q_lss rfl rfl)) ?_) | (refine i_bldS ?_; refine l_bldS tab rfl rfl rfl rfl (by first | exact CellsOf.agg | exact CellsOf.one rfl) (by first | ((repeat (first | exact RepR.zero | exact AppR.nil | apply RepR.succ | apply AppR.cons)); done) | fail) (by first | ((repeat (first | exact FillR.nil | exact LSets.nil | exact LSet.zero | exact CellsOf.agg | exact rfl | exact CellsOf.one rfl | apply FillR.cons | apply LSets.cons | apply LSet.succ)); done) | fail) (fun w => by kernel_rfl) (fun _ => ?_)) | (refine l_q rfl rfl rfl (by ((apply iq_cv; (exact q_conv tab rfl rfl rfl (by (rfl)))))) ?_))) | refine d_seq ?_ | refine c_region ?_ | refine l_nil ?_ | refine c_block ?_ | (refine i_q ?_; (refine d_then ?_)) | refine c_skip ?_ | (refine i_cond ?_; (refine c_ct rfl (by (exact decide_eq_true (by omega))) ?_))))
    rw [show IntKind.u8.wrap (vt : Int) = ((vt % 256 : Nat) : Int) by rw [IntKind.wrap_u8]; omega]
    rename_i gb
    (refine l_app tab rfl rfl rfl rowB (by first | ((repeat (first | exact Ext.head | apply Ext.tail)); done) | fail) (news := bv [((vt % 256 : Nat) : Int)]) (fun w h => SrcAt.blk (h.mem (X := blk gb _ _) (by first | ((repeat (first | exact List.Mem.head _ | apply List.Mem.tail)); done) | fail)) rfl) (bv_one _) (by omega) (by omega) (fun A6 c6 hA1 hA2 => ?_))
    rw [← bv_append]
    (repeat (first | (refine i_dst ?_; (first | (refine i_move ?_; refine l_q rfl rfl rfl (q_move rfl) ?_) | (refine i_assign ?_; refine l_q rfl rfl rfl (q_assign rfl) ?_))) | refine c_region ?_ | refine l_nil ?_ | (refine i_q ?_; (refine d_then ?_))))
    refine i_dst (l_q rfl rfl rfl (q_shr (m := (vt : Int)) (s := 8) rfl rfl (r := ((vt / 256 : Nat) : Int)) (by show (vt : Int).fdiv 256 = _; rw [Int.fdiv_eq_ediv_of_nonneg _ (by omega)]; omega)) ?_)
    (repeat (first | (refine i_dst ?_; (first | (refine i_move ?_; refine l_q rfl rfl rfl (q_move rfl) ?_) | (refine i_assign ?_; refine l_q rfl rfl rfl (q_assign rfl) ?_) | (refine i_bin ?_; refine l_q rfl rfl rfl (by (exact q_add rfl rfl (by (exact wr_i64 (by omega))))) ?_))) | refine c_region ?_ | refine l_nil ?_ | (refine i_q ?_; (first | refine d_then ?_ | refine t_then ?_ | refine t_block ?_))))
    refine k_again (t + 1, .slice A6 (t + 1) c6) (by dsimp only; omega) (by dsimp only; omega) (by dsimp only; rw [← hnext]; exact (by first | ((repeat (first | exact trivial | exact rfl | apply Sub.cons | exact look_int rfl (by omega) | exact look_int rfl (by simp) | exact look_int rfl (by simp; omega))); done) | fail)) (fun w h => ?_)
    dsimp only
    rw [le, ← hvt]
    exact h.psub (by first | ((repeat (first | exact PSub.nil | exact Ext.head | apply Ext.tail | apply PSub.cons)); done) | fail)
  · obtain rfl : t = 4 := by omega
    refine c_ex (fun w h => row_open (by omega) h) ?_
    rintro ⟨g, junk⟩ ⟨rfl, -, -, hjl⟩
    dsimp only at hjl ⊢
    have e4 : bv (le nv 4) ++ junk = .int .u8 ((nv / 256 ^ 0 % 256 : Nat) : Int) :: .int .u8 ((nv / 256 ^ 1 % 256 : Nat) : Int) :: .int .u8 ((nv / 256 ^ 2 % 256 : Nat) : Int) :: .int .u8 ((nv / 256 ^ 3 % 256 : Nat) : Int) :: junk := rfl
    rw [e4] at hjl ⊢
    (repeat (first | (refine i_dst ?_; (first | (refine i_move ?_; refine l_q rfl rfl rfl (q_move rfl) ?_) | (refine i_bin ?_; refine l_q rfl rfl rfl (by (exact q_lss rfl rfl)) ?_))) | refine d_seq ?_ | refine c_region ?_ | refine l_nil ?_ | (refine i_q ?_; (first | refine d_then ?_ | refine d_then_exit ?_ | refine t_then_exit ?_ | refine t_block_eq rfl ?_)) | refine c_exit ?_ | (refine i_cond ?_; (first | refine c_ct rfl (by (rfl)) ?_ | refine c_cf rfl (by (rfl)) ?_))))
    (refine l_call1 (X := blk g (.int .u8 ((nv / 256 ^ 0 % 256 : Nat) : Int) :: .int .u8 ((nv / 256 ^ 1 % 256 : Nat) : Int) :: .int .u8 ((nv / 256 ^ 2 % 256 : Nat) : Int) :: .int .u8 ((nv / 256 ^ 3 % 256 : Nat) : Int) :: junk) 5) (by first | ((repeat (first | exact Ext.head | apply Ext.tail)); done) | fail) rfl rfl Try.func63 rfl (by decide) (fun w' h => rev4_spec h.split ⟨hx1, hx2⟩) (fun v B hv => ?_); obtain rfl := hv)
    (repeat (first | (refine i_dst ?_; (first | (refine i_move ?_; refine l_q rfl rfl rfl (q_move rfl) ?_) | (refine i_bldS ?_; refine l_bldS tab rfl rfl rfl rfl (by first | exact CellsOf.agg | exact CellsOf.one rfl) (by first | ((repeat (first | exact RepR.zero | exact AppR.nil | apply RepR.succ | apply AppR.cons)); done) | fail) (by first | ((repeat (first | exact FillR.nil | exact LSets.nil | exact LSet.zero | exact CellsOf.agg | exact rfl | exact CellsOf.one rfl | apply FillR.cons | apply LSets.cons | apply LSet.succ)); done) | fail) (fun w => by kernel_rfl) (fun _ => ?_)))) | refine d_seq ?_ | refine c_region ?_ | refine l_nil ?_ | (refine i_q ?_; (refine d_then ?_))))
    rename_i gg
    (refine l_call0 rfl rfl Try.func64 rfl (by decide) (fun w' h => concat_spec (h.mem (X := blk gg [.slice A n c, .slice (some ⟨g, 0, none⟩) 4 cx] _) (by first | ((repeat (first | exact List.Mem.head _ | apply List.Mem.tail)); done) | fail)) (roOf0 h hr) (Ro.bytes (Ro.empty (bytesA_shut (l := be4 nv) (junk := junk) (h.mem (X := blk g _ 5) (by first | ((repeat (first | exact List.Mem.head _ | apply List.Mem.tail)); done) | fail)) (be4_oct nv) (by have := hjl; simp [be4] at this ⊢; omega) hx2))) ⟨hn.1, by omega, by omega⟩) (fun v B hv => ?_); obtain ⟨b, c', rfl, hc1, hc2, rfl⟩ := hv)
    (repeat (first | (refine i_dst ?_; ((refine i_assign ?_; refine l_q rfl rfl rfl (q_assign rfl) ?_))) | refine l_nil ?_ | (refine i_q ?_; (refine d_then ?_)) | refine c_ret ?_))
    exact t_hp (hp' := [row 5 1 (.slice (some ⟨b, 0, none⟩) (n + 4) c') (n + 4) (bv (l ++ be4 nv))]) (fun w h => h.psub (by first | ((repeat (first | exact PSub.nil | exact Ext.head | apply Ext.tail | apply PSub.cons)); done) | fail)) (t_ret2 Try.results40 rfl rfl ⟨b, c', rfl, hc1, hc2, rfl⟩)

set_option maxHeartbeats 8000000 in
theorem ntake_spec {w : World} {A : Option Addr} {n c : Nat} {l : List Int} (hr : Ro (fps []) w (roB A n l)) (hn : 4 ≤ n ∧ n ≤ 100) (hc : n ≤ c ∧ c ≤ maxLen) :
    Calls Try.prog 48 #[.slice A n c, .int .i64 4, .bool true] w (Ret w [] fun r B => ∃ A' c', r = .tuple #[.int .u64 (beV (l.take 4) 0 : Nat), .slice A' (n - 4) c', .int .i64 0] ∧ B = [bytesA (.slice A' (n - 4) c') (l.drop 4)]) := by
  have hl := roB_len hr.is
  have ho := roB_oct hr.is
  refine enter (vs := [.slice A n c, .int .i64 4, .bool true]) Try.func48 rfl Try.ntmps48 rfl (Hold.nil w) ?_
  have hmx : maxLen = 2 ^ 63 - 1 := rfl
  have hcut4 := hr.take (k := 4) (by omega)
  have hdrop := Ro.cut (a := 4) (k := n - 4) hr hc.1 (by omega)
  rw [List.take_of_length_le (by rw [List.length_drop]; omega)] at hdrop
  (repeat (first | (refine i_dst ?_; (first | (refine i_move ?_; refine l_q rfl rfl rfl (q_move rfl) ?_) | (refine i_assign ?_; refine l_q rfl rfl rfl (q_assign rfl) ?_))) | refine d_seq ?_ | refine c_region ?_ | refine l_nil ?_ | refine c_block ?_ | (refine i_q ?_; (refine d_then ?_))))
  (refine l_call0 rfl rfl Try.func62 rfl (by decide) (fun w' h => width4_spec w') (fun v B hv => ?_); obtain ⟨rfl, rfl⟩ := hv)
  (repeat (first | (refine i_dst ?_; (first | (refine i_move ?_; refine l_q rfl rfl rfl (q_move rfl) ?_) | (refine i_assign ?_; refine l_q rfl rfl rfl (q_assign rfl) ?_) | (refine i_bin ?_; refine l_q rfl rfl rfl (by (exact q_lss rfl rfl)) ?_) | (refine i_blt ?_; refine l_q rfl rfl rfl (by (exact q_len tab rfl rfl)) ?_) | (refine i_sl ?_; refine l_q rfl rfl rfl (by (exact q_slHi tab rfl rfl rfl rfl (by first | (with_reducible exact Int.toNat_natCast _) | (with_reducible exact Int.toNat_zero) | (with_reducible exact Int.toNat_one) | rfl) (by (omega)))) ?_) | refine l_q rfl rfl rfl (by (exact q_not rfl)) ?_)) | refine d_seq ?_ | refine c_region ?_ | refine l_nil ?_ | (refine i_q ?_; (first | refine d_then ?_ | refine t_block ?_)) | refine c_skip ?_ | (refine i_cond ?_; (refine c_cf rfl (by (first | rfl | exact decide_eq_false (by omega))) ?_))))
  (refine l_call0 rfl rfl Try.func36 rfl (by decide) (fun w' h => clone_spec A 4 c (l.take 4) w' (roOf0 h hcut4) (by omega)) (fun v B hv => ?_); obtain ⟨Ac, cc, rfl, rfl⟩ := hv)
  have hl4 : (l.take 4).length = 4 := by rw [List.length_take]; omega
  rw [hl4]
  (repeat (first | (refine i_dst ?_; (first | (refine i_move ?_; refine l_q rfl rfl rfl (q_move rfl) ?_) | (refine i_assign ?_; refine l_q rfl rfl rfl (q_assign rfl) ?_) | (refine i_blt ?_; refine l_q rfl rfl rfl (by (exact q_len tab rfl rfl)) ?_) | refine l_q rfl rfl rfl (by (exact q_not rfl)) ?_)) | refine d_seq ?_ | refine c_region ?_ | refine l_nil ?_ | refine c_block ?_ | (refine i_q ?_; (refine d_then ?_)) | refine c_skip ?_ | (refine i_cond ?_; (refine c_cf rfl (by (rfl)) ?_))))
  refine d_loop (T := Nat) [0, 1, 30, 31] (fun t => [(32, .int .i64 t), (10, .int .u64 (beV (l.take t) 0 : Nat))]) [bytesA (.slice Ac 4 cc) (l.take 4)] (fun _ => []) (fun t => t ≤ 4) (fun t => 4 - t) 0 (by first | ((repeat (first | exact Pick.nil | exact rfl | apply Pick.cons)); done) | fail) (by omega) (by first | ((repeat (first | exact trivial | exact rfl | apply Sub.cons | exact look_int rfl (by omega) | exact look_int rfl (by simp) | exact look_int rfl (by simp; omega))); done) | fail) (fun w h => h) ?_
  intro t ht
  by_cases h4 : t < 4
  · obtain ⟨b, hb⟩ : ∃ b, l[t]? = some b := ⟨_, List.getElem?_eq_getElem (by omega)⟩
    have hb8 := ho b (List.mem_of_getElem? hb)
    obtain ⟨bn, rfl⟩ : ∃ bn : Nat, b = bn := ⟨b.toNat, by omega⟩
    have hbt : (bv (l.take 4))[t]? = some (.int .u8 (bn : Int)) := by simp [bv, h4, hb]
    obtain ⟨a, ha⟩ : ∃ a, a = beV (l.take t) 0 := ⟨_, rfl⟩
    have halt : a < 256 ^ t := by rw [ha]; exact Nat.lt_of_lt_of_le (beV_lt (ho.take _)) (Nat.pow_le_pow_right (by omega) (by rw [List.length_take]; omega))
    have ha3 : a < 16777216 := Nat.lt_of_lt_of_le halt (Nat.le_trans (Nat.pow_le_pow_right (by omega) (show t ≤ 3 by omega)) (by decide))
    have hnext : beV (l.take (t + 1)) 0 = a * 256 + bn := by rw [List.take_add_one, hb]; show beV (l.take t ++ [(bn : Int)]) 0 = _; rw [beV_snoc, ha]; rfl
    rw [← ha]
    (repeat (first | (refine i_dst ?_; (first | (refine i_move ?_; refine l_q rfl rfl rfl (q_move rfl) ?_) | (refine i_assign ?_; refine l_q rfl rfl rfl (q_assign rfl) ?_) | (refine i_load ?_; refine l_q rfl rfl rfl (by ((exact q_ldS tab rfl rfl rfl (by ((exact fun w h => bytesA_src (h.mem (by first | ((repeat (first | exact List.Mem.head _ | apply List.Mem.tail)); done) | fail))))) (by (assumption))))) ?_) | (refine i_bin ?_; refine l_q rfl rfl rfl (by (exact q_lss rfl rfl)) ?_) | (refine i_ix ?_; refine l_q rfl rfl rfl (by ((exact q_ixS1 tab rfl rfl rfl rfl (by ((exact fun w h => bytesA_src (h.mem (by first | ((repeat (first | exact List.Mem.head _ | apply List.Mem.tail)); done) | fail))))) (by first | (with_reducible exact Int.toNat_natCast _) | (with_reducible exact Int.toNat_zero) | (with_reducible exact Int.toNat_one) | rfl) (by (omega)) (by (omega))))) ?_))) | refine d_seq ?_ | refine c_region ?_ | refine l_nil ?_ | refine c_block ?_ | (refine i_q ?_; (refine d_then ?_)) | refine c_skip ?_ | (refine i_cond ?_; (refine c_ct rfl (by (exact decide_eq_true (by omega))) ?_))))
    refine i_dst (l_q rfl rfl rfl (q_shl (m := (a : Int)) (s := 8) rfl rfl (r := ((a * 256 : Nat) : Int)) (by show IntKind.u64.wrap ((a : Int) * 256) = _; exact wr_u64 (by omega))) ?_)
    refine i_dst (l_q rfl rfl rfl (q_move rfl) ?_)
    refine i_dst (l_q rfl rfl rfl (q_conv tab rfl rfl rfl (wr_u64 (by omega))) ?_)
    refine i_dst (l_q rfl rfl rfl (q_bits rfl rfl rfl (or_run (k := a) (c := bn) (by omega) (by omega))) ?_)
    (repeat (first | (refine i_dst ?_; (first | (refine i_move ?_; refine l_q rfl rfl rfl (q_move rfl) ?_) | (refine i_assign ?_; refine l_q rfl rfl rfl (q_assign rfl) ?_) | (refine i_bin ?_; refine l_q rfl rfl rfl (by (exact q_add rfl rfl (by (exact wr_i64 (by omega))))) ?_))) | refine c_region ?_ | refine l_nil ?_ | (refine i_q ?_; (first | refine d_then ?_ | refine t_then ?_ | refine t_block ?_))))
    exact k_again (t + 1) (by omega) (by omega) (by rw [hnext]; exact (by first | ((repeat (first | exact trivial | exact rfl | apply Sub.cons | exact look_int rfl (by omega) | exact look_int rfl (by simp) | exact look_int rfl (by simp; omega))); done) | fail)) (fun w h => h)
  · obtain rfl : t = 4 := by omega
    (repeat (first | (refine i_dst ?_; (first | (refine i_move ?_; refine l_q rfl rfl rfl (q_move rfl) ?_) | (refine i_bin ?_; refine l_q rfl rfl rfl (by (exact q_lss rfl rfl)) ?_) | (refine i_sl ?_; refine l_q rfl rfl rfl (by (exact q_slLo tab rfl rfl rfl rfl (by first | (with_reducible exact Int.toNat_natCast _) | (with_reducible exact Int.toNat_zero) | (with_reducible exact Int.toNat_one) | rfl) (by (omega)))) ?_))) | refine d_seq ?_ | refine c_region ?_ | refine l_nil ?_ | (refine i_q ?_; (first | refine d_then ?_ | refine d_then_exit ?_ | refine t_then_exit ?_ | refine t_block_eq rfl ?_)) | refine c_exit ?_ | (refine i_cond ?_; (refine c_cf rfl (by (rfl)) ?_))))
    (refine l_call0 rfl rfl Try.func36 rfl (by decide) (fun w' h => clone_spec _ (n - 4) _ (l.drop 4) w' (roOf0 h hdrop) (by omega)) (fun v B hv => ?_); obtain ⟨Ad, cd, rfl, rfl⟩ := hv)
    have hl5 : (l.drop 4).length = n - 4 := by rw [List.length_drop]; omega
    rw [hl5]
    (repeat (first | (refine i_dst ?_; ((refine i_assign ?_; refine l_q rfl rfl rfl (q_assign rfl) ?_))) | refine l_nil ?_ | (refine i_q ?_; (refine d_then ?_)) | refine c_ret ?_))
    exact t_hp (hp' := [bytesA (.slice Ad (n - 4) cd) (l.drop 4)]) (fun w h => h.psub (by first | ((repeat (first | exact PSub.nil | exact Ext.head | apply Ext.tail | apply PSub.cons)); done) | fail)) (t_ret3 Try.results48 rfl rfl rfl ⟨Ad, cd, rfl, rfl⟩)
end Go.Proofs.Ytidekbijkknlmaa

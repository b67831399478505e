/-
  Layer 19: what lists are to it; few, and gather.New, walked.
-/
import Derived.Test.YtidekbijkknlmaaS7
import Derived.Test.YtidekbijkknlmaaSLg
set_option linter.unusedVariables false
set_option maxRecDepth 100000
namespace Go.Proofs.Ytidekbijkknlmaa
open Go.RowKit
attribute [local irreducible] TL TC TQ TK TO Qt TA
/-- A list, as far as its cells tell. -/
structure LC where
  first : Int
  A : Option Addr
  n : Nat
  c : Nat
  stim : Bool
  ev : Nat
  pre : Nat
  pri : Nat
  on : Bool
  ch : Bool
def lcC (x : LC) : List Value := [.int .i64 x.first, .slice x.A x.n x.c, .bool x.stim, .int .u8 x.ev, .int .u8 x.pre, .int .u8 x.pri, .bool x.on, .bool x.ch]
def InLC (v : List Value) (x : LC) : Prop := v = lcC x ∧ x.n ≤ x.c ∧ x.c ≤ maxLen
/-- Which table is which place of which list. -/
def plL : Nat → List LC → List (Option (Nat × Nat))
  | _, [] => []
  | i, x :: r => (List.range x.n).map (fun k => if x.stim then none else some (i, k)) ++ plL (i + 1) r
theorem plL_snoc : ∀ (i : Nat) (l : List LC) (x : LC), plL i (l ++ [x]) = plL i l ++ (List.range x.n).map (fun k => if x.stim then none else some (i + l.length, k))
  | i, [], x => by simp [plL]
  | i, y :: l, x => by
    rw [List.cons_append, plL, plL, plL_snoc (i + 1) l x, List.append_assoc, List.length_cons, show i + 1 + l.length = i + (l.length + 1) by omega]
theorem plL_lt {n : Nat} : ∀ (i : Nat) (l : List LC) (t a k : Nat), i + l.length ≤ n → (plL i l)[t]? = some (some (a, k)) → a < n
  | i, [], t, a, k, _, h => by simp [plL] at h
  | i, x :: l, t, a, k, hn, h => by
    rw [plL] at h
    rw [List.length_cons] at hn
    by_cases ht : t < x.n
    · rw [List.getElem?_append_left (by simpa using ht)] at h
      simp only [List.getElem?_map, List.getElem?_range ht, Option.map_some] at h
      injection h with h
      split at h
      · cases h
      · injection h with h
        injection h with h _
        omega
    · rw [List.getElem?_append_right (by simp; omega)] at h
      exact plL_lt (i + 1) l _ a k (by omega) h
theorem plL_len : ∀ (i : Nat) (l : List LC), (∀ x ∈ l, x.n ≤ 1000) → (plL i l).length ≤ 1000 * l.length
  | i, [], _ => by simp [plL]
  | i, x :: l, h => by
    have h1 := plL_len (i + 1) l (fun y hy => h y (by simp [hy]))
    have h2 := h x (by simp)
    rw [plL, List.length_append, List.length_map, List.length_range, List.length_cons]
    omega
/-- The map of places. -/
def pf (P : List (Option (Nat × Nat))) : Value → Option Value
  | .int _ t => if 0 ≤ t then (P[t.toNat]?.join).map (fun y => .agg #[.int .i64 y.1, .int .i64 y.2]) else none
  | _ => none
theorem pf_none (P : List (Option (Nat × Nat))) : pf (P ++ [none]) = pf P := by
  funext v
  unfold pf
  split
  · rename_i k t
    by_cases ht : 0 ≤ t
    · rw [if_pos ht, if_pos ht]
      congr 1
      by_cases h1 : t.toNat < P.length
      · rw [List.getElem?_append_left h1]
      · rw [List.getElem?_append_right (by omega), List.getElem?_eq_none (by omega : P.length ≤ t.toNat)]
        rcases Nat.eq_zero_or_pos (t.toNat - P.length) with e | e
        · rw [e]; rfl
        · rw [List.getElem?_eq_none (by simp; omega)]
    · rw [if_neg ht, if_neg ht]
  · rfl
theorem pf_nil : pf [] = fun _ => none := by
  funext v
  unfold pf
  split
  · simp
  · rfl
theorem pf_ok (P : List (Option (Nat × Nat))) (a k : Nat) (v : Value) (hv : MapKept.IsKey (.int .i64) v) : (v = .int .i64 (P.length : Nat) → pf (P ++ [some (a, k)]) v = some (.agg #[.int .i64 a, .int .i64 k])) ∧ (v ≠ .int .i64 (P.length : Nat) → pf (P ++ [some (a, k)]) v = pf P v) := by
  refine ⟨fun h => ?_, fun h => ?_⟩
  · subst h
    simp [pf]
  · unfold pf
    split
    · rename_i k' t
      have hk : k' = .i64 := hv
      subst hk
      by_cases ht : 0 ≤ t
      · rw [if_pos ht, if_pos ht]
        congr 1
        have hne : t.toNat ≠ P.length := fun e => h (by rw [← e, Int.toNat_of_nonneg ht])
        by_cases h1 : t.toNat < P.length
        · rw [List.getElem?_append_left h1]
        · rw [List.getElem?_eq_none (by simp; omega), List.getElem?_eq_none (by omega)]
      · rw [if_neg ht, if_neg ht]
    · rfl
theorem pf_at {P : List (Option (Nat × Nat))} {t : Int} (h0 : 0 ≤ t) : pf P (.int .i64 t) = (P[t.toNat]?.join).map (fun y => .agg #[.int .i64 y.1, .int .i64 y.2]) := by
  simp only [pf]
  rw [if_pos h0]
/-- What came of a list. -/
structure OpV where
  p : PartV
  lost : Bool
  many : Nat
def opC (x : OpV) : List Value := [x.p.v, .bool x.lost, .int .i64 x.many]
structure GaV where
  mb : Nat
  lv : Value
  P : List (Option (Nat × Nat))
  xs : List OpV
def gaL (p : Nat) (g : GaV) : List Asn := [blk p [.map (some g.mb), g.lv] 97, mapA (.int .i64) g.mb (pf g.P), row 101 3 g.lv g.xs.length (g.xs.flatMap opC), starL (g.xs.map fun x => partA x.p)]
def gaA (p : Nat) (g : GaV) : Asn := starL (gaL p g)
structure GL where
  many : Nat
  got : List (List Int)
  lost : Bool
def absG (xs : List OpV) : List GL := xs.map fun x => ⟨x.many, x.p.bs, x.lost⟩
def newG (ls : List LC) : List GL := ls.map fun x => ⟨x.n, [], false⟩
def opN (x : LC) : OpV := ⟨nilP, false, x.n⟩
theorem st_parts {S : Nat → Prop} {w0 w : World} {F : List Asn} (h : St S w0 F w) : ∀ n, St S w0 (starL (List.replicate n (partA nilP)) :: F) w
  | 0 => st_star0 h
  | n + 1 => by
    rw [List.replicate_succ']
    exact st_snoc (part_nil (st_parts h n))
theorem rowOp : RowT tab 95 101 3 40 (.agg #[.slice none 0 0, .bool false, .int .i64 0]) := ⟨rfl, rfl, rfl, by decide⟩
theorem rowL19 : RowT tab 22 45 8 40 (.agg #[.int .i64 0, .slice none 0 0, .bool false, .int .u8 0, .int .u8 0, .int .u8 0, .bool false, .bool false]) := ⟨rfl, rfl, rfl, by decide⟩
def Few19 (v : Value) (B : List Asn) : Prop := ∃ (A : Option Addr) (c : Nat) (xs : List LC), v = .slice A xs.length c ∧ xs.length ≤ c ∧ c ≤ maxLen ∧ B = [row 45 8 (.slice A xs.length c) xs.length (xs.flatMap lcC)] ∧ xs.length ≤ 6 ∧ ∀ x ∈ xs, x.n ≤ 20 ∧ x.n ≤ x.c ∧ x.c ≤ maxLen
/-- Lists in a row of one's own, or of others. -/
theorem lc_in {S : Nat → Prop} {w : World} {A : Option Addr} {n c : Nat} {xs : List LC} (hn : xs.length = n) (h : Ro S w (row 45 8 (.slice A n c) n (xs.flatMap lcC))) (hx : ∀ x ∈ xs, x.n ≤ x.c ∧ x.c ≤ maxLen) : InS S w 8 InLC A n xs :=
  InS.rows (xs.map lcC) hn (by simpa using hn) (fun r hr => by obtain ⟨x, _, rfl⟩ := List.mem_map.1 hr; rfl) (by rw [← List.flatMap_def]; exact h.rowV) (fun i r x hr hx' => by
    simp only [List.getElem?_map, hx', Option.map_some, Option.some.injEq] at hr
    exact ⟨hr.symm, hx x (List.mem_of_getElem? hx')⟩)
theorem lc_of {S : Nat → Prop} {w : World} {A : Option Addr} {n : Nat} {ls : List ListI} (h : InS S w 8 (InList S w) A n ls) : ∃ xs, InS S w 8 InLC A n xs := by
  obtain ⟨hlen, rows, h1, h2, h3, h4⟩ := h
  have hx : ∀ r ∈ rows, ∃ x, InLC r x := fun r hr => by
    obtain ⟨i, hi⟩ := List.getElem?_of_mem hr
    have hil := (List.getElem?_eq_some_iff.1 hi).1
    obtain ⟨l, hl⟩ : ∃ l, ls[i]? = some l := ⟨_, List.getElem?_eq_getElem (by omega)⟩
    obtain ⟨⟨A', n', c', e, -, q1, q2⟩, -, -, -, -⟩ := h4 i r l hi hl
    exact ⟨⟨l.first, A', n', c', l.stim, l.ev, l.pre, l.pri, l.on, l.ch⟩, e, q1, q2⟩
  obtain ⟨xs, hxl, hxs⟩ : ∃ xs : List LC, xs.length = rows.length ∧ ∀ (i : Nat) r x, rows[i]? = some r → xs[i]? = some x → InLC r x := by
    clear h1 h2 h3 h4 hlen
    induction rows with
    | nil => exact ⟨[], rfl, fun i r x h => by simp at h⟩
    | cons r rows ih =>
      obtain ⟨xs, q1, q2⟩ := ih (fun r hr => hx r (by simp [hr]))
      obtain ⟨x, hx0⟩ := hx r (by simp)
      refine ⟨x :: xs, by simp [q1], fun i r' x' hr hx' => ?_⟩
      cases i with
      | zero => simp at hr hx'; subst hr hx'; exact hx0
      | succ i => exact q2 i r' x' (by simpa using hr) (by simpa using hx')
  exact ⟨xs, by omega, rows, h1, h2, h3, hxs⟩
attribute [local irreducible] blk row bytesA starL memA segA roB
set_option maxHeartbeats 8000000 in
theorem few19_spec (A : Option Addr) (n c : Nat) (ls : List LC) (w : World) (hls : InS (fps []) w 8 InLC A n ls) (hnc : n ≤ c) (hcm : c ≤ maxLen) :
    Calls Try.prog 12 #[.slice A n c] w (Ret w [] Few19) := by
  have hlen := hls.len
  refine enter (vs := [.slice A n c]) Try.func12 rfl Try.ntmps12 rfl (Hold.nil w) ?_
  have hmx : maxLen = 2 ^ 63 - 1 := rfl
  (repeat (first | (refine i_dst ?_; (first | (refine i_move ?_; refine l_q rfl rfl rfl (q_move rfl) ?_) | (refine i_assign ?_; refine l_q rfl rfl rfl (q_assign rfl) ?_) | (refine i_blt ?_; refine l_q rfl rfl rfl (by (exact q_len tab rfl rfl)) ?_))) | refine d_seq ?_ | refine c_region ?_ | refine l_nil ?_ | refine c_block ?_ | (refine i_q ?_; (refine d_then ?_))))
  refine d_loop (T := Nat × Value × List LC) [6, 7] (fun t => [(8, .int .i64 t.1), (3, t.2.1)]) [] (fun t => [row 45 8 t.2.1 t.2.2.length (t.2.2.flatMap lcC)]) (fun t => t.1 ≤ n ∧ t.2.2.length ≤ 6 ∧ t.2.2.length ≤ t.1 ∧ ∀ x ∈ t.2.2, x.n ≤ 20 ∧ x.n ≤ x.c ∧ x.c ≤ maxLen) (fun t => n - t.1) (0, .slice none 0 0, []) (by first | ((repeat (first | exact Pick.nil | exact rfl | apply Pick.cons)); done) | fail) ⟨Nat.zero_le _, Nat.zero_le _, Nat.zero_le _, fun x h => by cases h⟩ (by first | ((repeat (first | exact trivial | exact rfl | apply Sub.cons | exact look_int rfl (by omega) | exact look_int rfl (by simp) | exact look_int rfl (by simp; omega))); done) | fail) (fun w h => (st_nil h _ 8).psub (by first | ((repeat (first | exact PSub.nil | exact Ext.head | apply Ext.tail | apply PSub.cons)); done) | fail)) ?_
  rintro ⟨i, ov, xs⟩ ⟨hi, hx1, hx2, hx3⟩
  dsimp only at hi hx1 hx2 hx3 ⊢
  refine c_fact (p := ∃ Ao co, ov = .slice Ao xs.length co ∧ xs.length ≤ co ∧ co ≤ maxLen) (fun w h => ?_) ?_
  · obtain ⟨Ao, co, e1, e2, e3, -⟩ := row_slice (h.get (i := 0) rfl)
    exact ⟨Ao, co, e1, e2, e3⟩
  rintro ⟨Ao, co, rfl, ho1, ho2⟩
  by_cases hlt : i < n
  · obtain ⟨⟨first, At, nt, ct, stim, ev, pre, pri, on, ch⟩, hl⟩ : ∃ l, ls[i]? = some l := ⟨_, List.getElem?_eq_getElem (by omega)⟩
    obtain ⟨bA, oA, r, rfl, hrl, ⟨rfl, ht1, ht2⟩, hcell⟩ := hls.get (by omega) hl
    dsimp only at ht1 ht2
    unfold lcC at hcell
    dsimp only at hcell
    by_cases h6 : i < 6
    · (repeat (first | (refine i_dst ?_; (first | (refine i_move ?_; refine l_q rfl rfl rfl (q_move rfl) ?_) | (refine i_assign ?_; refine l_q rfl rfl rfl (q_assign rfl) ?_) | (refine i_load ?_; refine l_q rfl rfl rfl (by (first | (exact q_ld1 tab rfl rfl rfl (by first | ((repeat (first | exact List.Mem.head _ | apply List.Mem.tail)); done) | fail) (by (rfl))) | (exact q_ldN tab rfl rfl rfl rfl (by first | ((repeat (first | exact List.Mem.head _ | apply List.Mem.tail)); done) | fail) (by first | ((repeat (first | exact TakeR.nil | apply TakeR.cons | apply CutR.zero | apply CutR.skip)); done) | fail)) | exact q_ldcN tab rfl rfl rfl rfl (by assumption) rfl)) ?_) | (refine i_bin ?_; refine l_q rfl rfl rfl (by (exact q_lss rfl rfl)) ?_) | (refine i_blt ?_; refine l_q rfl rfl rfl (by (first | exact q_len tab rfl rfl | exact q_minN rfl rfl)) ?_) | (refine i_ix ?_; refine l_q rfl rfl rfl (by (exact q_indexAddr tab rfl rfl rfl rfl (by omega))) ?_) | (refine i_sl ?_; refine l_q rfl rfl rfl (by (exact q_slHi tab rfl rfl rfl rfl (by first | (with_reducible exact Int.toNat_natCast _) | (with_reducible exact Int.toNat_zero) | (with_reducible exact Int.toNat_one) | rfl) (by (omega)))) ?_) | (refine i_alloc ?_; (refine l_allocA tab rfl rfl (fun _ => ?_))) | (refine i_bldS ?_; refine l_bldS tab rfl rfl rfl rfl (by first | exact CellsOf.agg | exact CellsOf.one rfl) (by first | ((repeat (first | exact RepR.zero | exact AppR.nil | apply RepR.succ | apply AppR.cons)); done) | fail) (by first | ((repeat (first | exact FillR.nil | exact LSets.nil | exact LSet.zero | exact CellsOf.agg | exact rfl | exact CellsOf.one rfl | apply FillR.cons | apply LSets.cons | apply LSet.succ)); done) | fail) (fun w => by kernel_rfl) (fun _ => ?_)) | (refine l_q rfl rfl rfl (by ((apply iq_fld; (exact q_fieldAddr tab rfl rfl rfl rfl rfl rfl rfl)))) ?_))) | refine d_seq ?_ | refine c_region ?_ | refine l_nil ?_ | refine c_block ?_ | (refine i_q ?_; (refine d_then ?_)) | refine c_skip ?_ | (refine i_store ?_; (first | (refine l_set tab rfl rfl rfl rfl (by first | ((repeat (first | exact Upd.head | apply Upd.tail)); done) | fail) (by first | ((repeat (first | exact LSet.zero | apply LSet.succ)); done) | fail) ?_) | (refine l_setN tab rfl rfl rfl rfl (List.cons_ne_nil _ _) rfl (by first | ((repeat (first | exact Upd.head | apply Upd.tail)); done) | fail) (by first | ((repeat (first | exact LSets.nil | exact LSet.zero | apply LSets.cons | apply LSet.succ)); done) | fail) ?_))) | (refine i_cond ?_; (refine c_ct rfl (by (exact decide_eq_true (by omega))) ?_))))
      rename_i b5 g28
      (refine l_app tab rfl rfl rfl rowL19 (by first | ((repeat (first | exact Ext.head | apply Ext.tail)); done) | fail) (news := [.int .i64 first, .slice At (min nt 20) ct, .bool stim, .int .u8 ev, .int .u8 pre, .int .u8 pri, .bool on, .bool ch]) (fun w h => SrcAt.blk (h.mem (X := blk g28 _ _) (by first | ((repeat (first | exact List.Mem.head _ | apply List.Mem.tail)); done) | fail)) rfl) (by simp [Value.oneCell']) (by omega) (by omega) (fun A6 c6 hA1 hA2 => ?_))
      (repeat (first | (refine i_dst ?_; (first | (refine i_move ?_; refine l_q rfl rfl rfl (q_move rfl) ?_) | (refine i_assign ?_; refine l_q rfl rfl rfl (q_assign rfl) ?_) | (refine i_bin ?_; refine l_q rfl rfl rfl (by (exact q_add rfl rfl (by (exact wr_i64 (by omega))))) ?_))) | refine c_region ?_ | refine l_nil ?_ | (refine i_q ?_; (first | refine d_then ?_ | refine t_then ?_ | refine t_block ?_))))
      refine k_again (i + 1, .slice A6 (xs.length + 1) c6, xs ++ [⟨first, At, min nt 20, ct, stim, ev, pre, pri, on, ch⟩]) ⟨by dsimp only; omega, by dsimp only; rw [List.length_append, List.length_singleton]; omega, by dsimp only; rw [List.length_append, List.length_singleton]; omega, fun x hx => ?_⟩ (by dsimp only; omega) (by dsimp only; exact (by first | ((repeat (first | exact trivial | exact rfl | apply Sub.cons | exact look_int rfl (by omega) | exact look_int rfl (by simp) | exact look_int rfl (by simp; omega))); done) | fail)) (fun w h => ?_)
      · dsimp only at hx
        rcases List.mem_append.1 hx with hx | hx
        · exact hx3 x hx
        · rw [List.mem_singleton] at hx
          subst hx
          exact ⟨by show min nt 20 ≤ 20; omega, by show min nt 20 ≤ ct; omega, ht2⟩
      · dsimp only
        rw [List.length_append, List.length_singleton, List.flatMap_append]
        exact h.psub (by first | ((repeat (first | exact PSub.nil | exact Ext.head | apply Ext.tail | apply PSub.cons)); done) | fail)
    · (repeat (first | (refine i_dst ?_; (first | (refine i_move ?_; refine l_q rfl rfl rfl (q_move rfl) ?_) | (refine i_assign ?_; refine l_q rfl rfl rfl (q_assign rfl) ?_) | (refine i_load ?_; refine l_q rfl rfl rfl (by (exact q_ldcN tab rfl rfl rfl rfl (by assumption) rfl)) ?_) | (refine i_bin ?_; refine l_q rfl rfl rfl (by (first | exact q_lss rfl rfl | exact q_add rfl rfl (by (exact wr_i64 (by omega))))) ?_) | (refine i_ix ?_; refine l_q rfl rfl rfl (by (exact q_indexAddr tab rfl rfl rfl rfl (by omega))) ?_) | (refine i_alloc ?_; (refine l_allocA tab rfl rfl (fun _ => ?_))))) | refine d_seq ?_ | refine c_region ?_ | refine l_nil ?_ | refine c_block ?_ | (refine i_q ?_; (first | refine d_then ?_ | refine t_then ?_ | refine t_block ?_)) | refine c_skip ?_ | (refine i_store ?_; ((refine l_setN tab rfl rfl rfl rfl (List.cons_ne_nil _ _) rfl (by first | ((repeat (first | exact Upd.head | apply Upd.tail)); done) | fail) (by first | ((repeat (first | exact LSets.nil | exact LSet.zero | apply LSets.cons | apply LSet.succ)); done) | fail) ?_))) | (refine i_cond ?_; (first | refine c_ct rfl (by (exact decide_eq_true (by omega))) ?_ | refine c_cf rfl (by (exact decide_eq_false (by omega))) ?_))))
      exact k_again (i + 1, .slice Ao xs.length co, xs) ⟨by dsimp only; omega, hx1, by dsimp only; omega, hx3⟩ (by dsimp only; omega) (by first | ((repeat (first | exact trivial | exact rfl | apply Sub.cons | exact look_int rfl (by omega) | exact look_int rfl (by simp) | exact look_int rfl (by simp; omega))); done) | fail) (fun w h => h.psub (by first | ((repeat (first | exact PSub.nil | exact Ext.head | apply Ext.tail | apply PSub.cons)); done) | fail))
  · (repeat (first | (refine i_dst ?_; (first | (refine i_move ?_; refine l_q rfl rfl rfl (q_move rfl) ?_) | (refine i_assign ?_; refine l_q rfl rfl rfl (q_assign rfl) ?_) | (refine i_bin ?_; refine l_q rfl rfl rfl (by (exact q_lss rfl rfl)) ?_))) | refine d_seq ?_ | refine c_region ?_ | refine l_nil ?_ | (refine i_q ?_; (first | refine d_then ?_ | refine d_then_exit ?_ | refine t_then_exit ?_ | refine t_block_eq rfl ?_)) | refine c_exit ?_ | refine c_ret ?_ | (refine i_cond ?_; (refine c_cf rfl (by (exact decide_eq_false (by omega))) ?_))))
    exact t_hp (fun w h => h.psub (by first | ((repeat (first | exact PSub.nil | exact Ext.head | apply Ext.tail | apply PSub.cons)); done) | fail)) (t_ret1 Try.results12 rfl ⟨Ao, co, xs, rfl, ho1, ho2, rfl, hx1, hx3⟩)
end Go.Proofs.Ytidekbijkknlmaa

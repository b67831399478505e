/-
  Layer 19: gather.Take, walked.
-/
import Derived.Test.YtidekbijkknlmaaY2
import Derived.Test.YtidekbijkknlmaaS4
set_option linter.unusedVariables false
set_option maxRecDepth 100000
namespace Go.Proofs.Ytidekbijkknlmaa
open Go.RowKit
attribute [local irreducible] TL TC TQ TK TO Qt TA
/-! ### What Take says -/
def addG (S : List GL) (i : Nat) (s : GL) (b : List Int) : List GL × Option (Nat × Bool × List (List Int)) :=
  if s.got.length + 1 < s.many then (S.set i ⟨s.many, s.got ++ [b], s.lost⟩, none) else (S.set i ⟨s.many, [], s.lost⟩, some (i, s.lost, s.got ++ [b]))
def putG (S : List GL) (i k : Nat) (over : Bool) (s : GL) (b : List Int) : List GL × Option (Nat × Bool × List (List Int)) :=
  if k = 0 then addG S i ⟨s.many, [], over⟩ b
  else if over = true ∨ k ≠ s.got.length then (S.set i ⟨s.many, [], s.lost⟩, none)
  else addG S i s b
def takeG (P : List (Option (Nat × Nat))) (S : List GL) (kind code : Nat) (b : List Int) : List GL × Option (Nat × Bool × List (List Int)) :=
  if kind = 4 then match P[if 64 ≤ code then code - 64 else code]?.join with
    | none => (S, none)
    | some (i, k) => match S[i]? with
      | none => (S, none)
      | some s => putG S i k (decide (64 ≤ code)) s b
  else (S, none)
def sI : Option (Nat × Bool × List (List Int)) → Nat
  | none => 0
  | some y => y.1
def sL : Option (Nat × Bool × List (List Int)) → Bool
  | none => false
  | some y => y.2.1
def sB : Option (Nat × Bool × List (List Int)) → List (List Int)
  | none => []
  | some y => y.2.2
def GOk (S : List GL) : Prop := ∀ s ∈ S, s.got.length ≤ s.many ∧ s.many ≤ 1000
def PlOk (P : List (Option (Nat × Nat))) (n : Nat) : Prop := ∀ (t a k : Nat), P[t]? = some (some (a, k)) → a < n
theorem GOk.set {S : List GL} (h : GOk S) {i : Nat} {s : GL} (hs : s.got.length ≤ s.many ∧ s.many ≤ 1000) : GOk (S.set i s) := fun t ht => by
  rcases List.mem_or_eq_of_mem_set ht with h1 | h1
  · exact h t h1
  · subst h1; exact hs
theorem GOk.add {S : List GL} (h : GOk S) {i : Nat} {s : GL} {b : List Int} (hs : s.many ≤ 1000) : GOk (addG S i s b).1 := by
  unfold addG
  split
  · exact h.set ⟨by simp; omega, hs⟩
  · exact h.set ⟨by simp, hs⟩
theorem GOk.take {P : List (Option (Nat × Nat))} {S : List GL} (h : GOk S) {kind code : Nat} {b : List Int} : GOk (takeG P S kind code b).1 := by
  unfold takeG
  split
  · split
    · exact h
    · split
      · exact h
      · rename_i s hs
        have := (h s (List.mem_of_getElem? hs)).2
        unfold putG
        split
        · exact h.add this
        · split
          · exact h.set ⟨by simp, this⟩
          · exact h.add this
  · exact h
theorem length_takeG {P : List (Option (Nat × Nat))} {S : List GL} {kind code : Nat} {b : List Int} : (takeG P S kind code b).1.length = S.length := by
  unfold takeG
  split
  · split
    · rfl
    · split
      · rfl
      · unfold putG addG
        repeat' split
        all_goals simp
  · rfl
def GTakeOut (p : Nat) (P : List (Option (Nat × Nat))) (r : List GL × Option (Nat × Bool × List (List Int))) (v : Value) (B : List Asn) : Prop :=
  ∃ g' s, v = .tuple #[.agg #[.int .i64 (sI r.2), .bool (sL r.2), s.v], .bool r.2.isSome] ∧ B = [gaA p g', partA s] ∧ g'.P = P ∧ absG g'.xs = r.1 ∧ s.bs = sB r.2
/-! ### One list's part, taken out, and put back -/
theorem flat_take (xs : List OpV) {i : Nat} {y : OpV} (h : xs[i]? = some y) : xs.flatMap opC = (xs.take i).flatMap opC ++ opC y ++ (xs.drop (i + 1)).flatMap opC := by
  obtain ⟨hi, e⟩ := List.getElem?_eq_some_iff.1 h
  have h1 : xs = xs.take i ++ y :: xs.drop (i + 1) := by
    rw [← e, ← List.drop_eq_getElem_cons hi, List.take_append_drop]
  conv => lhs; rw [h1]
  rw [List.flatMap_append, List.flatMap_cons, List.append_assoc]
theorem flatG_set (xs : List OpV) {i : Nat} (z : OpV) (h : i < xs.length) : (xs.set i z).flatMap opC = (xs.take i).flatMap opC ++ opC z ++ (xs.drop (i + 1)).flatMap opC := by
  rw [List.set_eq_take_append_cons_drop, if_pos h, List.flatMap_append, List.flatMap_cons, List.append_assoc]
theorem len_opC (xs : List OpV) : (xs.flatMap opC).length = xs.length * 3 := by
  induction xs with
  | nil => rfl
  | cons x l ih => rw [List.flatMap_cons, List.length_append, ih, List.length_cons]; simp [opC]; omega
theorem lset_pre {x v : Value} {l : List Value} : ∀ (pre : List Value), LSet (pre ++ x :: l) pre.length v (pre ++ v :: l)
  | [] => .zero
  | y :: pre => .succ (lset_pre pre)
section
variable {S : Nat → Prop} {w0 w : World} {p i : Nat} {g : GaV} {y : OpV} {F : List Asn}
theorem ga_open (h : St S w0 (gaA p g :: F) w) : St S w0 (gaL p g ++ F) w := st_unstar (l := gaL p g) h
theorem ga_shut (h : St S w0 (gaL p g ++ F) w) : St S w0 (gaA p g :: F) w := st_packs2 (Xs := gaL p g) h
theorem ga_focus (hi : g.xs[i]? = some y) (h : St S w0 (gaA p g :: F) w) : ∃ z : Nat × Nat × List Value, (g.lv = .slice (some ⟨z.1, 0, none⟩) g.xs.length z.2.1 ∧ g.xs.length ≤ z.2.1 ∧ z.2.1 ≤ maxLen ∧ (g.xs.flatMap opC ++ z.2.2).length = z.2.1 * 3) ∧ St S w0 (partA y.p :: blk z.1 ((g.xs.take i).flatMap opC ++ y.p.v :: .bool y.lost :: .int .i64 y.many :: ((g.xs.drop (i + 1)).flatMap opC ++ z.2.2)) 101 :: blk p [.map (some g.mb), g.lv] 97 :: mapA (.int .i64) g.mb (pf g.P) :: starL ((g.xs.map fun x => partA x.p).set i emp) :: F) w := by
  have h0 : St S w0 (blk p [.map (some g.mb), g.lv] 97 :: mapA (.int .i64) g.mb (pf g.P) :: row 101 3 g.lv g.xs.length (g.xs.flatMap opC) :: starL (g.xs.map fun x => partA x.p) :: F) w := st_unstar (l := gaL p g) h
  have h1 : St S w0 (partA y.p :: blk p [.map (some g.mb), g.lv] 97 :: mapA (.int .i64) g.mb (pf g.P) :: row 101 3 g.lv g.xs.length (g.xs.flatMap opC) :: starL ((g.xs.map fun x => partA x.p).set i emp) :: F) w := st_take (j := 3) (i := i) h0 rfl (by simp [hi])
  obtain ⟨A, c, e1, e2, e3, -⟩ := row_slice (h1.get (i := 3) rfl)
  have hil := (List.getElem?_eq_some_iff.1 hi).1
  have h2 : St S w0 (row 101 3 (.slice A g.xs.length c) g.xs.length (g.xs.flatMap opC) :: partA y.p :: blk p [.map (some g.mb), g.lv] 97 :: mapA (.int .i64) g.mb (pf g.P) :: starL ((g.xs.map fun x => partA x.p).set i emp) :: F) w := by
    rw [← e1]
    exact h1.perm ((List.perm_append_comm (l₁ := [partA y.p, blk p [.map (some g.mb), g.lv] 97, mapA (.int .i64) g.mb (pf g.P)]) (l₂ := [row 101 3 g.lv g.xs.length (g.xs.flatMap opC)])).append_right _)
  obtain ⟨⟨gl, junk⟩, ⟨q1, q2, q3, q4⟩, h3⟩ := row_open (by omega) h2
  subst q1
  refine ⟨(gl, c, junk), ⟨e1, q2, q3, q4⟩, ?_⟩
  have e5 : g.xs.flatMap opC ++ junk = (g.xs.take i).flatMap opC ++ y.p.v :: .bool y.lost :: .int .i64 y.many :: ((g.xs.drop (i + 1)).flatMap opC ++ junk) := by
    rw [flat_take g.xs hi]
    simp [opC]
  rw [e5] at h3
  exact h3.perm (.swap _ _ _)
theorem ga_unfocus {z : OpV} {gl c : Nat} {junk : List Value} (hi : i < g.xs.length) (hz : g.lv = .slice (some ⟨gl, 0, none⟩) g.xs.length c ∧ g.xs.length ≤ c ∧ c ≤ maxLen ∧ (g.xs.flatMap opC ++ junk).length = c * 3) (h : St S w0 (partA z.p :: blk gl ((g.xs.take i).flatMap opC ++ z.p.v :: .bool z.lost :: .int .i64 z.many :: ((g.xs.drop (i + 1)).flatMap opC ++ junk)) 101 :: blk p [.map (some g.mb), g.lv] 97 :: mapA (.int .i64) g.mb (pf g.P) :: starL ((g.xs.map fun x => partA x.p).set i emp) :: F) w) : St S w0 (gaA p ⟨g.mb, g.lv, g.P, g.xs.set i z⟩ :: F) w := by
  obtain ⟨e1, e2, e3, e4⟩ := hz
  have hx : (g.xs.map fun x => partA x.p)[i]? = some (partA g.xs[i].p) := by simp [List.getElem?_eq_getElem hi]
  have h0 : St S w0 (partA z.p :: starL ((g.xs.map fun x => partA x.p).set i emp) :: blk gl ((g.xs.take i).flatMap opC ++ z.p.v :: .bool z.lost :: .int .i64 z.many :: ((g.xs.drop (i + 1)).flatMap opC ++ junk)) 101 :: blk p [.map (some g.mb), g.lv] 97 :: mapA (.int .i64) g.mb (pf g.P) :: F) w :=
    h.perm (.cons _ ((List.perm_append_comm (l₁ := [_, _, _]) (l₂ := [_])).append_right _))
  have h1 := st_back hx h0
  have e5 : (g.xs.take i).flatMap opC ++ z.p.v :: .bool z.lost :: .int .i64 z.many :: ((g.xs.drop (i + 1)).flatMap opC ++ junk) = (g.xs.set i z).flatMap opC ++ junk := by
    rw [flatG_set g.xs z hi]
    simp [opC]
  rw [e5] at h1
  have h2 : St S w0 (blk gl ((g.xs.set i z).flatMap opC ++ junk) 101 :: starL ((g.xs.map fun x => partA x.p).set i (partA z.p)) :: blk p [.map (some g.mb), g.lv] 97 :: mapA (.int .i64) g.mb (pf g.P) :: F) w := h1.perm (.swap _ _ _)
  have h3 := row_shut (n := g.xs.length) (c := c) (size := 3) e2 e3 (by rw [len_opC, List.length_set]) (by
    rw [List.length_append, len_opC, List.length_set]
    rw [List.length_append, len_opC] at e4
    exact e4) h2
  rw [← e1] at h3
  unfold gaA gaL
  refine st_packs2 (Xs := [_, _, _, _]) ?_
  dsimp only
  rw [List.length_set, List.map_set]
  exact h3.perm (.trans (.cons _ (.swap _ _ _)) (.trans (.swap _ _ _) (.cons _ (.trans (.cons _ (.swap _ _ _)) (.swap _ _ _)))))
end
theorem absG_set (xs : List OpV) (i : Nat) (z : OpV) : absG (xs.set i z) = (absG xs).set i ⟨z.many, z.p.bs, z.lost⟩ := by simp [absG, List.map_set]
theorem absG_get {xs : List OpV} {i : Nat} {y : OpV} (h : xs[i]? = some y) : (absG xs)[i]? = some ⟨y.many, y.p.bs, y.lost⟩ := by simp [absG, h]
theorem res_cellM {P : Program} (T : Tab P) {env : Env} {hp : List Asn} {S : Nat → Prop} {w0 : World} {p b : Nat} {t t' : TypeId} {l : List Value} {dt : TypeDesc} {z : Value} {s y : Nat} (hp_ : look env p = some (.pointer (some ⟨b, 0, none⟩))) (ht : T.u t = some dt) (ha : aggB dt = true) (hz : T.i t = some (z, s, y)) (hi : blk b l t' ∈ hp) (hl : l.length = s) : resOf P env hp S w0 (.cell p t) (.agg l.toArray) := by
  obtain ⟨i, hi⟩ := List.getElem?_of_mem hi
  exact res_cell T i hp_ ht ha hz hi hl
section
variable {P : Program} {n : Nat} {S : Nat → Prop} {w0 : World} {Q : Exit → Act → World → Prop} {env : Env} {hp : List Asn}
/-- What follows two ways, said once. -/
theorem d_if_join {α : Type} {c : Operand} {x y rest : Code} (p : α → Prop) (E : α → Env) (ks : List Nat) {pe : Env} (hk : Pick env ks pe) (H : α → List Asn) (h : ∀ a, p a → TC P n S w0 Q rest (E a ++ pe) (H a))
    (k : ∀ Q' : Exit → Act → World → Prop, (∀ a, p a → ∀ env hp, Sub (E a ++ pe) env → (∀ w, St S w0 hp w → St S w0 (H a) w) → TQ n S w0 Q' .normal env hp) → (∀ env hp, TQ n S w0 Q .ret env hp → TQ n S w0 Q' .ret env hp) → (∀ i env hp, TQ n S w0 Q (.exit i) env hp → TQ n S w0 Q' (.exit i) env hp) → TC P n S w0 Q' (.cond c x y) env hp) : TC P n S w0 (ThenC P rest Q) (.cond c x y) env hp :=
  k _ (fun a ha _ _ hE hH => d_then (c_sub hE hH (h a ha))) (fun _ _ h => d_then_ret h) (fun _ _ _ h => d_then_exit h)
end
attribute [local irreducible] blk row bytesA starL memA segA roB
attribute [local irreducible] mapA partA gaA
theorem gtake_nil (w : World) (kind code : Nat) (B : Option Addr) (k cb : Nat) : Calls Try.prog 15 #[.pointer none, .agg #[.int .u8 kind, .int .u8 code, .slice B k cb]] w (Ret w [] fun v B => v = .tuple #[.agg #[.int .i64 0, .bool false, .slice none 0 0], .bool false] ∧ B = []) := by
  refine enter (vs := [.pointer none, .agg #[.int .u8 kind, .int .u8 code, .slice B k cb]]) Try.func15 rfl Try.ntmps15 rfl (Hold.nil w) ?_
  (repeat (first | (refine i_dst ?_; (first | (refine i_move ?_; refine l_q rfl rfl rfl (q_move rfl) ?_) | (refine i_assign ?_; refine l_q rfl rfl rfl (q_assign rfl) ?_) | (refine i_bin ?_; refine l_q rfl rfl rfl (by (exact q_eqnil tab rfl rfl rfl)) ?_) | (refine i_box ?_; (refine l_boxA rfl rfl (fun _ => ?_))) | (refine i_alloc ?_; (refine l_allocA tab rfl rfl (fun _ => ?_))) | (refine l_q rfl rfl rfl (by (first | exact q_pick_t rfl rfl | (apply iq_bld; ((exact q_bld tab rfl rfl rfl (by first | ((repeat (first | exact FillR.nil | exact LSets.nil | exact LSet.zero | exact CellsOf.agg | exact rfl | exact CellsOf.one rfl | apply FillR.cons | apply LSets.cons | apply LSet.succ)); done) | fail) (fun w => by kernel_rfl)))))) ?_))) | refine d_seq ?_ | refine c_region ?_ | refine l_nil ?_ | (refine i_q ?_; (first | refine d_then ?_ | refine d_then_ret ?_)) | refine c_ret ?_ | (refine i_guard ?_; (refine l_gf rfl rfl rfl rfl rfl rfl ?_)) | (refine i_store ?_; ((refine l_setN tab rfl rfl rfl rfl (List.cons_ne_nil _ _) rfl (by first | ((repeat (first | exact Upd.head | apply Upd.tail)); done) | fail) (by first | ((repeat (first | exact LSets.nil | exact LSet.zero | apply LSets.cons | apply LSet.succ)); done) | fail) ?_))) | (refine i_cond ?_; (refine c_ct rfl (by (rfl)) ?_))))
  exact t_ret2h (hp' := []) Try.results15 (res_cellM tab rfl rfl rfl rfl (by first | ((repeat (first | exact List.Mem.head _ | apply List.Mem.tail)); done) | fail) rfl) rfl (fun w h => h.psub (by first | ((repeat (first | exact PSub.nil | exact Ext.head | apply Ext.tail | apply PSub.cons)); done) | fail)) ⟨rfl, rfl⟩

set_option maxHeartbeats 8000000 in
theorem gtake_spec {p : Nat} {g : GaV} {w : World} (hA : Hold [gaA p g] w) (hP : PlOk g.P g.xs.length) (hG : GOk (absG g.xs)) (kind code : Nat) (hkd : kind ≤ 255) (hc : code ≤ 255) (B : Option Addr) (k cb : Nat) (b : List Int) (hr : Ro (fps [gaA p g]) w (roB B k b)) (hk : k ≤ 1000000) :
    Calls Try.prog 15 #[.pointer (some ⟨p, 0, none⟩), .agg #[.int .u8 kind, .int .u8 code, .slice B k cb]] w (Ret w [gaA p g] (GTakeOut p g.P (takeG g.P (absG g.xs) kind code b))) := by
  refine enter (vs := [.pointer (some ⟨p, 0, none⟩), .agg #[.int .u8 kind, .int .u8 code, .slice B k cb]]) Try.func15 rfl Try.ntmps15 rfl hA ?_
  have hbl : b.length = k := roB_len hr.is
  have hmx : maxLen = 2 ^ 63 - 1 := rfl
  (repeat (first | (refine i_dst ?_; (first | (refine i_move ?_; refine l_q rfl rfl rfl (q_move rfl) ?_) | (refine i_assign ?_; refine l_q rfl rfl rfl (q_assign rfl) ?_) | (refine i_load ?_; refine l_q rfl rfl rfl (by ((exact q_ld1 tab rfl rfl rfl (by first | ((repeat (first | exact List.Mem.head _ | apply List.Mem.tail)); done) | fail) (by (rfl))))) ?_) | (refine i_bin ?_; refine l_q rfl rfl rfl (by (first | exact q_neq rfl rfl | exact q_eqnil tab rfl rfl rfl)) ?_) | (refine i_box ?_; (refine l_boxA rfl rfl (fun _ => ?_))) | (refine i_alloc ?_; (refine l_allocA tab rfl rfl (fun _ => ?_))) | (refine l_q rfl rfl rfl (by (first | (apply iq_fld; (exact q_fieldAddr tab rfl rfl rfl rfl rfl rfl rfl)) | exact q_pick_f rfl rfl)) ?_))) | refine d_seq ?_ | refine c_region ?_ | refine l_nil ?_ | (refine i_q ?_; (refine d_then ?_)) | (refine i_guard ?_; (refine l_gt rfl rfl rfl ?_))))
  rename_i bR bS
  by_cases h4 : kind = 4
  rotate_left
  · have et : takeG g.P (absG g.xs) kind code b = (absG g.xs, none) := by rw [takeG, if_neg h4]
    rw [et]
    (repeat (first | (refine i_dst ?_; (first | (refine i_assign ?_; refine l_q rfl rfl rfl (q_assign rfl) ?_) | (refine l_q rfl rfl rfl (by ((apply iq_bld; ((exact q_bld tab rfl rfl rfl (by first | ((repeat (first | exact FillR.nil | exact LSets.nil | exact LSet.zero | exact CellsOf.agg | exact rfl | exact CellsOf.one rfl | apply FillR.cons | apply LSets.cons | apply LSet.succ)); done) | fail) (fun w => by kernel_rfl)))))) ?_))) | refine d_seq ?_ | refine c_region ?_ | refine l_nil ?_ | (refine i_q ?_; (first | refine d_then ?_ | refine d_then_ret ?_)) | refine c_ret ?_ | (refine i_store ?_; ((refine l_setN tab rfl rfl rfl rfl (List.cons_ne_nil _ _) rfl (by first | ((repeat (first | exact Upd.head | apply Upd.tail)); done) | fail) (by first | ((repeat (first | exact LSets.nil | exact LSet.zero | apply LSets.cons | apply LSet.succ)); done) | fail) ?_))) | (refine i_cond ?_; (refine c_ct rfl (by (exact decide_eq_true (by omega))) ?_))))
    exact t_ret2h (hp' := [gaA p g, partA nilP]) Try.results15 (res_cellM tab rfl rfl rfl rfl (by first | ((repeat (first | exact List.Mem.head _ | apply List.Mem.tail)); done) | fail) rfl) rfl (fun w h => (part_nil (h.psub (hp' := [gaA p g]) (by first | ((repeat (first | exact PSub.nil | exact Ext.head | apply Ext.tail | apply PSub.cons)); done) | fail))).psub (by first | ((repeat (first | exact PSub.nil | exact Ext.head | apply Ext.tail | apply PSub.cons)); done) | fail)) ⟨g, nilP, rfl, rfl, rfl, rfl, rfl⟩
  have et : takeG g.P (absG g.xs) kind code b = match g.P[if 64 ≤ code then code - 64 else code]?.join with
    | none => (absG g.xs, none)
    | some (i, k) => match (absG g.xs)[i]? with
      | none => (absG g.xs, none)
      | some s => putG (absG g.xs) i k (decide (64 ≤ code)) s b := by rw [takeG, if_pos h4]
  rw [et]
  clear et
  generalize htb : (if 64 ≤ code then code - 64 else code) = tb
  (repeat (first | refine d_seq ?_ | (refine i_q ?_; (refine d_then ?_)) | refine c_skip ?_ | (refine i_cond ?_; (refine c_cf rfl (by (exact decide_eq_false (by omega))) ?_))))
  (refine a_begin mixed _ 8 rfl (fun w h => h) ?_)
  ((refine a_q 0 rfl rfl rfl rfl rfl (by decide +kernel) (by ((apply iq_fld; (exact q_fieldAddr tab rfl rfl rfl rfl rfl rfl rfl)))) ?_; ((refine a_q 1 rfl rfl rfl rfl rfl (by decide +kernel) (by ((exact q_ld1 tab rfl rfl rfl (by first | ((repeat (first | exact List.Mem.head _ | apply List.Mem.tail)); done) | fail) (by (rfl))))) ?_)); refine a_q 2 rfl rfl rfl rfl rfl (by decide +kernel) (by (exact q_geq rfl rfl)) ?_; refine a_q 3 rfl rfl rfl rfl rfl (by decide +kernel) (by ((apply iq_fld; (exact q_fieldAddr tab rfl rfl rfl rfl rfl rfl rfl)))) ?_; ((refine a_q 4 rfl rfl rfl rfl rfl (by decide +kernel) (by ((exact q_ld1 tab rfl rfl rfl (by first | ((repeat (first | exact List.Mem.head _ | apply List.Mem.tail)); done) | fail) (by (rfl))))) ?_)); refine a_q 5 rfl rfl rfl rfl rfl (by decide +kernel) (by ((apply iq_cv; (exact q_conv tab rfl rfl rfl (by (exact wr_i64 (by omega))))))) ?_; refine a_q 6 rfl rfl rfl rfl rfl (by decide +kernel) (q_assign rfl) ?_; refine a_q 7 rfl rfl rfl rfl rfl (by decide +kernel) (q_assign rfl) ?_))
  refine a_done (by decide +kernel) ?_
  (repeat (first | (refine i_dst ?_; ((refine i_move ?_; refine l_q rfl rfl rfl (q_move rfl) ?_))) | refine d_seq ?_ | refine c_region ?_ | refine l_nil ?_ | (refine i_q ?_; (refine d_then ?_))))
  refine d_if_join (α := Unit) (fun _ => True) (fun _ => [(7, .int .i64 (tb : Int)), (6, .bool (decide (64 ≤ code)))]) [0, 3, 4] (by first | ((repeat (first | exact Pick.nil | exact rfl | apply Pick.cons)); done) | fail) (fun _ => [blk bS [.int .i64 0, .bool false, .slice none 0 0] 35, blk bR [.int .u8 kind, .int .u8 code, .slice B k cb] 32, gaA p g]) (fun _ _ => ?_) (fun Q' hj hret hex => ?_)
  rotate_left
  · have e6 : decide ((64 : Int) ≤ (code : Int)) = decide (64 ≤ code) := by
      by_cases h : 64 ≤ code
      · rw [decide_eq_true h, decide_eq_true (by omega)]
      · rw [decide_eq_false h, decide_eq_false (by omega)]
    by_cases hov : 64 ≤ code
    · rw [if_pos hov] at htb
      (repeat (first | (refine i_dst ?_; (first | (refine i_move ?_; refine l_q rfl rfl rfl (q_move rfl) ?_) | (refine i_assign ?_; refine l_q rfl rfl rfl (q_assign rfl) ?_) | (refine i_bin ?_; refine l_q rfl rfl rfl (by (exact q_sub rfl rfl (by (exact wr_i64 (by omega))))) ?_))) | refine c_region ?_ | refine l_nil ?_ | (refine i_cond ?_; (refine c_ct rfl (by (exact decide_eq_true (by omega))) ?_))))
      exact hj () trivial _ _ (by rw [← e6]; exact (by first | ((repeat (first | exact trivial | exact rfl | apply Sub.cons | exact look_int rfl (by omega) | exact look_int rfl (by simp) | exact look_int rfl (by simp; omega))); done) | fail)) (fun w h => h.psub (by first | ((repeat (first | exact PSub.nil | exact Ext.head | apply Ext.tail | apply PSub.cons)); done) | fail))
    · rw [if_neg hov] at htb
      (repeat (first | refine c_skip ?_ | (refine i_cond ?_; (refine c_cf rfl (by (exact decide_eq_false (by omega))) ?_))))
      exact hj () trivial _ _ (by rw [← e6]; exact (by first | ((repeat (first | exact trivial | exact rfl | apply Sub.cons | exact look_int rfl (by omega) | exact look_int rfl (by simp) | exact look_int rfl (by simp; omega))); done) | fail)) (fun w h => h.psub (by first | ((repeat (first | exact PSub.nil | exact Ext.head | apply Ext.tail | apply PSub.cons)); done) | fail))
  have htb0 : pf g.P (.int .i64 (tb : Int)) = (g.P[tb]?.join).map (fun y => .agg #[.int .i64 y.1, .int .i64 y.2]) := by
    rw [pf_at (by omega), Int.toNat_natCast]
  refine c_hp (hp' := [blk p [.map (some g.mb), g.lv] 97, mapA (.int .i64) g.mb (pf g.P), row 101 3 g.lv g.xs.length (g.xs.flatMap opC), starL (g.xs.map fun x => partA x.p), blk bS [.int .i64 0, .bool false, .slice none 0 0] 35, blk bR [.int .u8 kind, .int .u8 code, .slice B k cb] 32]) (fun w h => ga_open (h.ext (X := gaA p g) (by first | ((repeat (first | exact Ext.head | apply Ext.tail)); done) | fail))) ?_
  cases hpl : g.P[tb]?.join with
  | none =>
    rw [hpl] at htb0
    dsimp only
    (repeat (first | (refine i_dst ?_; (first | (refine i_move ?_; refine l_q rfl rfl rfl (q_move rfl) ?_) | (refine i_load ?_; refine l_q rfl rfl rfl (by ((exact q_ld1 tab rfl rfl rfl (by first | ((repeat (first | exact List.Mem.head _ | apply List.Mem.tail)); done) | fail) (by (rfl))))) ?_) | (refine l_q rfl rfl rfl (by (first | (apply iq_fld; (exact q_fieldAddr tab rfl rfl rfl rfl rfl rfl rfl)) | (apply iq_nck; (exact q_nilck rfl)))) ?_))) | refine d_seq ?_ | refine c_region ?_))
    refine l_q rfl rfl rfl (q_lookup tab rfl rfl rfl rfl rfl rfl (by first | ((repeat (first | exact List.Mem.head _ | apply List.Mem.tail)); done) | fail) htb0) ?_
    (repeat (first | (refine i_dst ?_; (first | (refine i_move ?_; refine l_q rfl rfl rfl (q_move rfl) ?_) | (refine i_assign ?_; refine l_q rfl rfl rfl (q_assign rfl) ?_) | (refine i_alloc ?_; (refine l_allocA tab rfl rfl (fun _ => ?_))) | (refine l_q rfl rfl rfl (by (first | exact q_extract rfl rfl | exact q_not rfl | (apply iq_bld; ((exact q_bld tab rfl rfl rfl (by first | ((repeat (first | exact FillR.nil | exact LSets.nil | exact LSet.zero | exact CellsOf.agg | exact rfl | exact CellsOf.one rfl | apply FillR.cons | apply LSets.cons | apply LSet.succ)); done) | fail) (fun w => by kernel_rfl)))))) ?_))) | refine d_seq ?_ | refine c_region ?_ | refine l_nil ?_ | (refine i_q ?_; (first | refine d_then ?_ | refine d_then_ret ?_)) | refine c_ret ?_ | (refine i_store ?_; ((refine l_setN tab rfl rfl rfl rfl (List.cons_ne_nil _ _) rfl (by first | ((repeat (first | exact Upd.head | apply Upd.tail)); done) | fail) (by first | ((repeat (first | exact LSets.nil | exact LSet.zero | apply LSets.cons | apply LSet.succ)); done) | fail) ?_))) | (refine i_cond ?_; (refine c_ct rfl (by (rfl)) ?_))))
    exact t_ret2h (hp' := [gaA p g, partA nilP]) Try.results15 (res_cellM tab rfl rfl rfl rfl (by first | ((repeat (first | exact List.Mem.head _ | apply List.Mem.tail)); done) | fail) rfl) rfl (fun w h => (part_nil (ga_shut (F := []) (h.psub (by first | ((repeat (first | exact PSub.nil | exact Ext.head | apply Ext.tail | apply PSub.cons)); done) | fail)))).psub (by first | ((repeat (first | exact PSub.nil | exact Ext.head | apply Ext.tail | apply PSub.cons)); done) | fail)) ⟨g, nilP, rfl, rfl, rfl, rfl, rfl⟩
  | some q =>
    obtain ⟨i, j⟩ := q
    rw [hpl] at htb0
    dsimp only at htb0 ⊢
    have hin : i < g.xs.length := by
      refine hP tb i j ?_
      cases hq : g.P[tb]? with
      | none => rw [hq] at hpl; cases hpl
      | some u => rw [hq] at hpl; rw [show u = some (i, j) from hpl]
    obtain ⟨y, hy⟩ : ∃ y, g.xs[i]? = some y := ⟨_, List.getElem?_eq_getElem hin⟩
    rw [absG_get hy]
    dsimp only
    have hGy := hG _ (List.mem_of_getElem? (absG_get hy))
    dsimp only at hGy
    (repeat (first | (refine i_dst ?_; (first | (refine i_move ?_; refine l_q rfl rfl rfl (q_move rfl) ?_) | (refine i_load ?_; refine l_q rfl rfl rfl (by ((exact q_ld1 tab rfl rfl rfl (by first | ((repeat (first | exact List.Mem.head _ | apply List.Mem.tail)); done) | fail) (by (rfl))))) ?_) | (refine l_q rfl rfl rfl (by (first | (apply iq_fld; (exact q_fieldAddr tab rfl rfl rfl rfl rfl rfl rfl)) | (apply iq_nck; (exact q_nilck rfl)))) ?_))) | refine d_seq ?_ | refine c_region ?_))
    refine l_q rfl rfl rfl (q_lookup tab rfl rfl rfl rfl rfl rfl (by first | ((repeat (first | exact List.Mem.head _ | apply List.Mem.tail)); done) | fail) htb0) ?_
    (repeat (first | (refine i_dst ?_; (first | (refine i_move ?_; refine l_q rfl rfl rfl (q_move rfl) ?_) | (refine i_assign ?_; refine l_q rfl rfl rfl (q_assign rfl) ?_) | (refine i_alloc ?_; (refine l_allocA tab rfl rfl (fun _ => ?_))) | refine l_q rfl rfl rfl (by (first | exact q_extract rfl rfl | exact q_not rfl)) ?_)) | refine d_seq ?_ | refine c_region ?_ | refine l_nil ?_ | (refine i_q ?_; (refine d_then ?_)) | refine c_skip ?_ | (refine i_store ?_; ((refine l_setN tab rfl rfl rfl rfl (List.cons_ne_nil _ _) rfl (by first | ((repeat (first | exact Upd.head | apply Upd.tail)); done) | fail) (by first | ((repeat (first | exact LSets.nil | exact LSet.zero | apply LSets.cons | apply LSet.succ)); done) | fail) ?_))) | (refine i_cond ?_; (refine c_cf rfl (by (rfl)) ?_))))
    rename_i bP
    refine c_ex (hp' := fun z : Nat × Nat × List Value => partA y.p :: blk z.1 ((g.xs.take i).flatMap opC ++ y.p.v :: .bool y.lost :: .int .i64 y.many :: ((g.xs.drop (i + 1)).flatMap opC ++ z.2.2)) 101 :: blk p [.map (some g.mb), g.lv] 97 :: mapA (.int .i64) g.mb (pf g.P) :: starL ((g.xs.map fun x => partA x.p).set i emp) :: [blk bP [.int .i64 i, .int .i64 j] 99, blk bS [.int .i64 0, .bool false, .slice none 0 0] 35, blk bR [.int .u8 kind, .int .u8 code, .slice B k cb] 32]) (fun w h => ga_focus hy (ga_shut (F := [blk bP [.int .i64 i, .int .i64 j] 99, blk bS [.int .i64 0, .bool false, .slice none 0 0] 35, blk bR [.int .u8 kind, .int .u8 code, .slice B k cb] 32]) (h.psub (by first | ((repeat (first | exact PSub.nil | exact Ext.head | apply Ext.tail | apply PSub.cons)); done) | fail)))) ?_
    rintro ⟨gl, cg, junk⟩ ⟨hz1, hz2, hz3, hz4⟩
    dsimp only at hz1 hz2 hz3 hz4 ⊢
    obtain ⟨pre, hpre⟩ : ∃ pre, pre = (g.xs.take i).flatMap opC := ⟨_, rfl⟩
    obtain ⟨post, hpost⟩ : ∃ post, post = (g.xs.drop (i + 1)).flatMap opC ++ junk := ⟨_, rfl⟩
    have hp3 : pre.length = i * 3 := by rw [hpre, len_opC, List.length_take]; omega
    have hback : ∀ (z : OpV) (w' : World), z.many = y.many → St (fps [gaA p g]) w (partA z.p :: blk gl (pre ++ z.p.v :: .bool z.lost :: .int .i64 y.many :: post) 101 :: blk p [.map (some g.mb), .slice (some ⟨gl, 0, none⟩) g.xs.length cg] 97 :: mapA (.int .i64) g.mb (pf g.P) :: starL ((g.xs.map fun x => partA x.p).set i emp) :: []) w' → St (fps [gaA p g]) w (gaA p ⟨g.mb, g.lv, g.P, g.xs.set i z⟩ :: []) w' := fun z w' hm h => by
      rw [hpre, hpost, ← hz1, ← hm] at h
      exact ga_unfocus hin ⟨hz1, hz2, hz3, hz4⟩ h
    have hback2 : ∀ (z : OpV) (X : Asn) (w' : World), z.many = y.many → St (fps [gaA p g]) w (partA z.p :: blk gl (pre ++ z.p.v :: .bool z.lost :: .int .i64 y.many :: post) 101 :: blk p [.map (some g.mb), .slice (some ⟨gl, 0, none⟩) g.xs.length cg] 97 :: mapA (.int .i64) g.mb (pf g.P) :: starL ((g.xs.map fun x => partA x.p).set i emp) :: [X]) w' → St (fps [gaA p g]) w (X :: [gaA p ⟨g.mb, g.lv, g.P, g.xs.set i z⟩]) w' := fun z X w' hm h => by
      rw [hpre, hpost, ← hz1, ← hm] at h
      exact (ga_unfocus hin ⟨hz1, hz2, hz3, hz4⟩ h).perm (.swap _ _ _)
    rw [hz1, ← hpre, ← hpost]
    clear hpre hpost hz4
    have e0 : 0 + ((i : Nat) : Int).toNat * 3 + 0 = pre.length := by omega
    have e1 : ∀ a : Value, 0 + ((i : Nat) : Int).toNat * 3 + 1 = (pre ++ [a]).length := fun a => by simp; omega
    have e2 : ∀ a b : Value, 0 + ((i : Nat) : Int).toNat * 3 + 2 = (pre ++ [a, b]).length := fun a b => by simp; omega
    have ls0 : ∀ a b c v : Value, LSet (pre ++ a :: b :: c :: post) (0 + ((i : Nat) : Int).toNat * 3 + 0) v (pre ++ v :: b :: c :: post) := fun a b c v => by rw [e0]; exact lset_pre pre
    have ls1 : ∀ a b c v : Value, LSet (pre ++ a :: b :: c :: post) (0 + ((i : Nat) : Int).toNat * 3 + 1) v (pre ++ a :: v :: c :: post) := fun a b c v => by
      rw [e1 a]
      have := lset_pre (x := b) (v := v) (l := c :: post) (pre ++ [a])
      simpa using this
    have ls2 : ∀ a b c v : Value, LSet (pre ++ a :: b :: c :: post) (0 + ((i : Nat) : Int).toNat * 3 + 2) v (pre ++ a :: b :: v :: post) := fun a b c v => by
      rw [e2 a b]
      have := lset_pre (x := c) (v := v) (l := post) (pre ++ [a, b])
      simpa using this
    have hg0 : ∀ a b c : Value, (pre ++ a :: b :: c :: post)[0 + ((i : Nat) : Int).toNat * 3 + 0]? = some a := fun a b c => by rw [e0]; simp
    have hg1 : ∀ a b c : Value, (pre ++ a :: b :: c :: post)[0 + ((i : Nat) : Int).toNat * 3 + 1]? = some b := fun a b c => by
      rw [e1 a, show pre ++ a :: b :: c :: post = (pre ++ [a]) ++ b :: c :: post by simp]; simp
    have hg2 : ∀ a b c : Value, (pre ++ a :: b :: c :: post)[0 + ((i : Nat) : Int).toNat * 3 + 2]? = some c := fun a b c => by
      rw [e2 a b, show pre ++ a :: b :: c :: post = (pre ++ [a, b]) ++ c :: post by simp]; simp
    clear e0 e1 e2 hp3
    refine c_fact (p := ∃ Ay cy, y.p.v = .slice Ay y.p.bs.length cy ∧ y.p.bs.length ≤ cy ∧ cy ≤ maxLen ∧ y.p.vs.length = y.p.bs.length) (fun w h => part_v (h.get (i := 0) rfl)) ?_
    rintro ⟨Ay, cy, hyv, hyc, hym, hyl⟩
    (refine a_begin mixed _ 8 rfl (fun w h => h) ?_)
    ((refine a_q 0 rfl rfl rfl rfl rfl (by decide +kernel) (q_move rfl) ?_; refine a_q 1 rfl rfl rfl rfl rfl (by decide +kernel) (by ((apply iq_nck; (exact q_nilck rfl)))) ?_; refine a_q 2 rfl rfl rfl rfl rfl (by decide +kernel) (by ((apply iq_fld; (exact q_fieldAddr tab rfl rfl rfl rfl rfl rfl rfl)))) ?_; ((refine a_q 3 rfl rfl rfl rfl rfl (by decide +kernel) (by ((exact q_ld1 tab rfl rfl rfl (by first | ((repeat (first | exact List.Mem.head _ | apply List.Mem.tail)); done) | fail) (by (rfl))))) ?_)); refine a_q 4 rfl rfl rfl rfl rfl (by decide +kernel) (by ((apply iq_fld; (exact q_fieldAddr tab rfl rfl rfl rfl rfl rfl rfl)))) ?_; ((refine a_q 5 rfl rfl rfl rfl rfl (by decide +kernel) (by ((exact q_ld1 tab rfl rfl rfl (by first | ((repeat (first | exact List.Mem.head _ | apply List.Mem.tail)); done) | fail) (by (rfl))))) ?_)); refine a_q 6 rfl rfl rfl rfl rfl (by decide +kernel) (by (exact q_indexAddr tab rfl rfl rfl rfl (by omega))) ?_; refine a_q 7 rfl rfl rfl rfl rfl (by decide +kernel) (q_assign rfl) ?_))
    refine a_done (by decide +kernel) ?_
    (repeat (first | (refine i_dst ?_; (first | (refine i_load ?_; refine l_q rfl rfl rfl (by ((exact q_ld1 tab rfl rfl rfl (by first | ((repeat (first | exact List.Mem.head _ | apply List.Mem.tail)); done) | fail) (by (rfl))))) ?_) | (refine i_bin ?_; refine l_q rfl rfl rfl (by (exact q_eql rfl rfl)) ?_) | (refine l_q rfl rfl rfl (by ((apply iq_fld; (exact q_fieldAddr tab rfl rfl rfl rfl rfl rfl rfl)))) ?_))) | refine d_seq ?_ | refine c_region ?_ | refine l_nil ?_ | (refine i_q ?_; (refine d_then ?_))))
    refine d_if_join (α := OpV) (fun z => z.many = y.many ∧ z.p.bs.length ≤ 1000 ∧ putG (absG g.xs) i j (decide (64 ≤ code)) ⟨y.many, y.p.bs, y.lost⟩ b = addG (absG g.xs) i ⟨y.many, z.p.bs, z.lost⟩ b) (fun _ => []) [3, 4, 8, 10] (by first | ((repeat (first | exact Pick.nil | exact rfl | apply Pick.cons)); done) | fail) (fun z => [partA z.p, blk gl (pre ++ z.p.v :: .bool z.lost :: .int .i64 y.many :: post) 101, blk p [.map (some g.mb), .slice (some ⟨gl, 0, none⟩) g.xs.length cg] 97, mapA (.int .i64) g.mb (pf g.P), starL ((g.xs.map fun x => partA x.p).set i emp), blk bP [.int .i64 i, .int .i64 j] 99, blk bS [.int .i64 0, .bool false, .slice none 0 0] 35, blk bR [.int .u8 kind, .int .u8 code, .slice B k cb] 32]) ?_ (fun Q' hjn hret hex => ?_)
    rotate_left
    · by_cases hj0 : j = 0
      · (repeat (first | (refine i_dst ?_; (first | (refine i_move ?_; refine l_q rfl rfl rfl (q_move rfl) ?_) | (refine l_q rfl rfl rfl (by (first | (apply iq_fld; (exact q_fieldAddr tab rfl rfl rfl rfl rfl rfl rfl)) | (apply iq_nck; (exact q_nilck rfl)))) ?_))) | refine c_region ?_ | refine l_nil ?_ | (refine i_store ?_; ((refine l_set tab rfl rfl rfl rfl (by first | ((repeat (first | exact Upd.head | apply Upd.tail)); done) | fail) (by first | exact ls0 _ _ _ _ | exact ls1 _ _ _ _ | exact ls2 _ _ _ _) ?_))) | (refine i_cond ?_; (refine c_ct rfl (by (exact decide_eq_true (by omega))) ?_))))
        exact hjn ⟨nilP, decide (64 ≤ code), y.many⟩ ⟨rfl, Nat.zero_le _, by rw [putG, if_pos hj0]; rfl⟩ _ _ (by first | ((repeat (first | exact trivial | exact rfl | apply Sub.cons | exact look_int rfl (by omega) | exact look_int rfl (by simp) | exact look_int rfl (by simp; omega))); done) | fail) (fun w h => (part_nil h).psub (by first | ((repeat (first | exact PSub.nil | exact Ext.head | apply Ext.tail | apply PSub.cons)); done) | fail))
      · by_cases hov : 64 ≤ code
        · have ep : putG (absG g.xs) i j (decide (64 ≤ code)) ⟨y.many, y.p.bs, y.lost⟩ b = ((absG g.xs).set i ⟨y.many, [], y.lost⟩, none) := by
            rw [putG, if_neg hj0, if_pos (.inl (decide_eq_true hov))]
          rw [ep] at hret
          (repeat (first | refine d_seq ?_ | (refine i_cond ?_; (refine c_cf rfl (by (exact decide_eq_false (by omega))) ?_))))
          (refine a_begin mixed _ 11 rfl (fun w h => h) ?_)
          ((refine a_q 0 rfl rfl rfl rfl rfl (by decide +kernel) (q_move rfl) ?_; refine a_q 1 rfl rfl rfl rfl rfl (by decide +kernel) (q_move rfl) ?_; ((refine a_known 59 true rfl (by (exact decide_eq_true (by omega))) ?_; (refine a_gf 2 rfl rfl rfl rfl rfl rfl rfl rfl (by decide +kernel) ?_))); (refine a_gf 3 rfl rfl rfl rfl rfl rfl rfl rfl (by decide +kernel) ?_); (refine a_gf 4 rfl rfl rfl rfl rfl rfl rfl rfl (by decide +kernel) ?_); (refine a_gf 5 rfl rfl rfl rfl rfl rfl rfl rfl (by decide +kernel) ?_); (refine a_gf 6 rfl rfl rfl rfl rfl rfl rfl rfl (by decide +kernel) ?_); (refine a_gf 7 rfl rfl rfl rfl rfl rfl rfl rfl (by decide +kernel) ?_); (refine a_gf 8 rfl rfl rfl rfl rfl rfl rfl rfl (by decide +kernel) ?_); (refine a_gf 9 rfl rfl rfl rfl rfl rfl rfl rfl (by decide +kernel) ?_); refine a_q 10 rfl rfl rfl rfl rfl (by decide +kernel) (by (exact q_pick_t rfl rfl)) ?_))
          refine a_done (by decide +kernel) ?_
          (repeat (first | (refine i_dst ?_; (first | (refine i_move ?_; refine l_q rfl rfl rfl (q_move rfl) ?_) | (refine i_assign ?_; refine l_q rfl rfl rfl (q_assign rfl) ?_) | (refine l_q rfl rfl rfl (by (first | (apply iq_fld; (exact q_fieldAddr tab rfl rfl rfl rfl rfl rfl rfl)) | (apply iq_nck; (exact q_nilck rfl)) | (apply iq_bld; ((exact q_bld tab rfl rfl rfl (by first | ((repeat (first | exact FillR.nil | exact LSets.nil | exact LSet.zero | exact CellsOf.agg | exact rfl | exact CellsOf.one rfl | apply FillR.cons | apply LSets.cons | apply LSet.succ)); done) | fail) (fun w => by kernel_rfl)))))) ?_))) | refine d_seq ?_ | refine c_region ?_ | refine l_nil ?_ | (refine i_q ?_; (refine d_then ?_)) | refine c_ret ?_ | (refine i_store ?_; (first | (refine l_setN tab rfl rfl rfl rfl (List.cons_ne_nil _ _) rfl (by first | ((repeat (first | exact Upd.head | apply Upd.tail)); done) | fail) (by first | ((repeat (first | exact LSets.nil | exact LSet.zero | apply LSets.cons | apply LSet.succ)); done) | fail) ?_) | (refine l_set tab rfl rfl rfl rfl (by first | ((repeat (first | exact Upd.head | apply Upd.tail)); done) | fail) (by first | exact ls0 _ _ _ _ | exact ls1 _ _ _ _ | exact ls2 _ _ _ _) ?_))) | (refine i_cond ?_; (refine c_ct rfl (by (rfl)) ?_))))
          refine hret _ _ ?_
          exact t_ret2h (hp' := [gaA p ⟨g.mb, g.lv, g.P, g.xs.set i ⟨nilP, y.lost, y.many⟩⟩, partA nilP]) Try.results15 (res_cellM tab rfl rfl rfl rfl (by first | ((repeat (first | exact List.Mem.head _ | apply List.Mem.tail)); done) | fail) rfl) rfl (fun w h => (part_nil (hback ⟨nilP, y.lost, y.many⟩ _ rfl ((part_nil h).psub (by first | ((repeat (first | exact PSub.nil | exact Ext.head | apply Ext.tail | apply PSub.cons)); done) | fail)))).psub (by first | ((repeat (first | exact PSub.nil | exact Ext.head | apply Ext.tail | apply PSub.cons)); done) | fail)) ⟨_, nilP, rfl, rfl, rfl, absG_set _ _ _, rfl⟩
        · by_cases hjl : j = y.p.bs.length
          · have ep : putG (absG g.xs) i j (decide (64 ≤ code)) ⟨y.many, y.p.bs, y.lost⟩ b = addG (absG g.xs) i ⟨y.many, y.p.bs, y.lost⟩ b := by
              rw [putG, if_neg hj0, if_neg (by simp [hov, hjl])]
            rw [hyv]
            (repeat (first | refine d_seq ?_ | (refine i_cond ?_; (refine c_cf rfl (by (exact decide_eq_false (by omega))) ?_))))
            (refine a_begin mixed _ 11 rfl (fun w h => h) ?_)
            ((refine a_q 0 rfl rfl rfl rfl rfl (by decide +kernel) (q_move rfl) ?_; refine a_q 1 rfl rfl rfl rfl rfl (by decide +kernel) (q_move rfl) ?_; ((refine a_known 59 false rfl (by (exact decide_eq_false (by omega))) ?_; ((refine a_gt 2 rfl rfl rfl rfl rfl rfl rfl (by decide +kernel) (by ((apply iq_fld; (exact q_fieldAddr tab rfl rfl rfl rfl rfl rfl rfl)))) ?_)))); ((refine a_gt 3 rfl rfl rfl rfl rfl rfl rfl (by decide +kernel) (by ((exact q_ld1 tab rfl rfl rfl (by first | ((repeat (first | exact List.Mem.head _ | apply List.Mem.tail)); done) | fail) (by (rfl))))) ?_)); (refine a_gt 4 rfl rfl rfl rfl rfl rfl rfl (by decide +kernel) (q_move rfl) ?_); ((refine a_gt 5 rfl rfl rfl rfl rfl rfl rfl (by decide +kernel) (by ((apply iq_nck; (exact q_nilck rfl)))) ?_)); ((refine a_gt 6 rfl rfl rfl rfl rfl rfl rfl (by decide +kernel) (by ((apply iq_fld; (exact q_fieldAddr tab rfl rfl rfl rfl rfl rfl rfl)))) ?_)); ((refine a_gt 7 rfl rfl rfl rfl rfl rfl rfl (by decide +kernel) (by ((exact q_ld1 tab rfl rfl rfl (by first | ((repeat (first | exact List.Mem.head _ | apply List.Mem.tail)); done) | fail) (by first | exact hg0 _ _ _ | exact hg1 _ _ _ | exact hg2 _ _ _)))) ?_)); (refine a_gt 8 rfl rfl rfl rfl rfl rfl rfl (by decide +kernel) (by (exact q_len tab rfl rfl)) ?_); (refine a_gt 9 rfl rfl rfl rfl rfl rfl rfl (by decide +kernel) (by (exact q_neq rfl rfl)) ?_); refine a_q 10 rfl rfl rfl rfl rfl (by decide +kernel) (by (exact q_pick_f rfl rfl)) ?_))
            refine a_done (by decide +kernel) ?_
            (repeat (first | (refine i_q ?_; (refine d_then ?_)) | refine c_skip ?_ | (refine i_cond ?_; (refine c_cf rfl (by (exact decide_eq_false (by omega))) ?_))))
            refine hjn y ⟨rfl, by omega, ep⟩ _ _ (by first | ((repeat (first | exact trivial | exact rfl | apply Sub.cons | exact look_int rfl (by omega) | exact look_int rfl (by simp) | exact look_int rfl (by simp; omega))); done) | fail) (fun w h => ?_)
            rw [hyv]
            exact h.psub (by first | ((repeat (first | exact PSub.nil | exact Ext.head | apply Ext.tail | apply PSub.cons)); done) | fail)
          · have ep : putG (absG g.xs) i j (decide (64 ≤ code)) ⟨y.many, y.p.bs, y.lost⟩ b = ((absG g.xs).set i ⟨y.many, [], y.lost⟩, none) := by
              rw [putG, if_neg hj0, if_pos (.inr hjl)]
            rw [ep] at hret
            rw [hyv]
            (repeat (first | refine d_seq ?_ | (refine i_cond ?_; (refine c_cf rfl (by (exact decide_eq_false (by omega))) ?_))))
            (refine a_begin mixed _ 11 rfl (fun w h => h) ?_)
            ((refine a_q 0 rfl rfl rfl rfl rfl (by decide +kernel) (q_move rfl) ?_; refine a_q 1 rfl rfl rfl rfl rfl (by decide +kernel) (q_move rfl) ?_; ((refine a_known 59 false rfl (by (exact decide_eq_false (by omega))) ?_; ((refine a_gt 2 rfl rfl rfl rfl rfl rfl rfl (by decide +kernel) (by ((apply iq_fld; (exact q_fieldAddr tab rfl rfl rfl rfl rfl rfl rfl)))) ?_)))); ((refine a_gt 3 rfl rfl rfl rfl rfl rfl rfl (by decide +kernel) (by ((exact q_ld1 tab rfl rfl rfl (by first | ((repeat (first | exact List.Mem.head _ | apply List.Mem.tail)); done) | fail) (by (rfl))))) ?_)); (refine a_gt 4 rfl rfl rfl rfl rfl rfl rfl (by decide +kernel) (q_move rfl) ?_); ((refine a_gt 5 rfl rfl rfl rfl rfl rfl rfl (by decide +kernel) (by ((apply iq_nck; (exact q_nilck rfl)))) ?_)); ((refine a_gt 6 rfl rfl rfl rfl rfl rfl rfl (by decide +kernel) (by ((apply iq_fld; (exact q_fieldAddr tab rfl rfl rfl rfl rfl rfl rfl)))) ?_)); ((refine a_gt 7 rfl rfl rfl rfl rfl rfl rfl (by decide +kernel) (by ((exact q_ld1 tab rfl rfl rfl (by first | ((repeat (first | exact List.Mem.head _ | apply List.Mem.tail)); done) | fail) (by first | exact hg0 _ _ _ | exact hg1 _ _ _ | exact hg2 _ _ _)))) ?_)); (refine a_gt 8 rfl rfl rfl rfl rfl rfl rfl (by decide +kernel) (by (exact q_len tab rfl rfl)) ?_); (refine a_gt 9 rfl rfl rfl rfl rfl rfl rfl (by decide +kernel) (by (exact q_neq rfl rfl)) ?_); refine a_q 10 rfl rfl rfl rfl rfl (by decide +kernel) (by (exact q_pick_f rfl rfl)) ?_))
            refine a_done (by decide +kernel) ?_
            (repeat (first | (refine i_dst ?_; (first | (refine i_move ?_; refine l_q rfl rfl rfl (q_move rfl) ?_) | (refine i_assign ?_; refine l_q rfl rfl rfl (q_assign rfl) ?_) | (refine l_q rfl rfl rfl (by (first | (apply iq_fld; (exact q_fieldAddr tab rfl rfl rfl rfl rfl rfl rfl)) | (apply iq_nck; (exact q_nilck rfl)) | (apply iq_bld; ((exact q_bld tab rfl rfl rfl (by first | ((repeat (first | exact FillR.nil | exact LSets.nil | exact LSet.zero | exact CellsOf.agg | exact rfl | exact CellsOf.one rfl | apply FillR.cons | apply LSets.cons | apply LSet.succ)); done) | fail) (fun w => by kernel_rfl)))))) ?_))) | refine d_seq ?_ | refine c_region ?_ | refine l_nil ?_ | (refine i_q ?_; (refine d_then ?_)) | refine c_ret ?_ | (refine i_store ?_; (first | (refine l_setN tab rfl rfl rfl rfl (List.cons_ne_nil _ _) rfl (by first | ((repeat (first | exact Upd.head | apply Upd.tail)); done) | fail) (by first | ((repeat (first | exact LSets.nil | exact LSet.zero | apply LSets.cons | apply LSet.succ)); done) | fail) ?_) | (refine l_set tab rfl rfl rfl rfl (by first | ((repeat (first | exact Upd.head | apply Upd.tail)); done) | fail) (by first | exact ls0 _ _ _ _ | exact ls1 _ _ _ _ | exact ls2 _ _ _ _) ?_))) | (refine i_cond ?_; (refine c_ct rfl (by (exact decide_eq_true (by omega))) ?_))))
            refine hret _ _ ?_
            exact t_ret2h (hp' := [gaA p ⟨g.mb, g.lv, g.P, g.xs.set i ⟨nilP, y.lost, y.many⟩⟩, partA nilP]) Try.results15 (res_cellM tab rfl rfl rfl rfl (by first | ((repeat (first | exact List.Mem.head _ | apply List.Mem.tail)); done) | fail) rfl) rfl (fun w h => (part_nil (hback ⟨nilP, y.lost, y.many⟩ _ rfl ((part_nil h).psub (by first | ((repeat (first | exact PSub.nil | exact Ext.head | apply Ext.tail | apply PSub.cons)); done) | fail)))).psub (by first | ((repeat (first | exact PSub.nil | exact Ext.head | apply Ext.tail | apply PSub.cons)); done) | fail)) ⟨_, nilP, rfl, rfl, rfl, absG_set _ _ _, rfl⟩
    · rintro ⟨⟨zv, zvs, zbs⟩, zl, zm⟩ ⟨hzm, hzb, ep⟩
      dsimp only at hzm hzb ep ⊢
      subst hzm
      rw [ep]
      refine c_fact (p := ∃ Az cz, zv = .slice Az zbs.length cz ∧ zbs.length ≤ cz ∧ cz ≤ maxLen ∧ zvs.length = zbs.length) (fun w h => part_v (y := ⟨zv, zvs, zbs⟩) (h.get (i := 0) rfl)) ?_
      rintro ⟨Az, cz, rfl, hzc, hzm, hzl⟩
      refine c_hp (hp' := [row 30 1 (.slice Az zbs.length cz) zbs.length zvs, starL (List.zipWith bytesA zvs zbs), blk gl (pre ++ (.slice Az zbs.length cz) :: .bool zl :: .int .i64 y.many :: post) 101, blk p [.map (some g.mb), .slice (some ⟨gl, 0, none⟩) g.xs.length cg] 97, mapA (.int .i64) g.mb (pf g.P), starL ((g.xs.map fun x => partA x.p).set i emp), blk bP [.int .i64 i, .int .i64 j] 99, blk bS [.int .i64 0, .bool false, .slice none 0 0] 35, blk bR [.int .u8 kind, .int .u8 code, .slice B k cb] 32]) (fun w h => by have h1 := part_open (h.ext (X := partA _) (by first | ((repeat (first | exact Ext.head | apply Ext.tail)); done) | fail)); dsimp only at h1; rw [hzl] at h1; exact h1.psub (by first | ((repeat (first | exact PSub.nil | exact Ext.head | apply Ext.tail | apply PSub.cons)); done) | fail)) ?_
      (repeat (refine d_seq ?_))
      (refine a_beginE mixed [blk gl (pre ++ (.slice Az zbs.length cz) :: .bool zl :: .int .i64 y.many :: post) 101, blk bR [.int .u8 kind, .int .u8 code, .slice B k cb] 32] [blk bR [.int .u8 kind, .int .u8 code, .slice B k cb] 32] 13 12 rfl (fun w h => h.subl (by first | ((repeat (first | exact SubL.nil | apply SubL.keep | apply SubL.skip)); done) | fail)) (fun w h => h.subl (by first | ((repeat (first | exact SubL.nil | apply SubL.keep | apply SubL.skip)); done) | fail)) ?_)
      ((refine a_q 0 rfl rfl rfl rfl rfl (by decide +kernel) (q_move rfl) ?_; refine a_q 1 rfl rfl rfl rfl rfl (by decide +kernel) (q_move rfl) ?_; refine a_q 2 rfl rfl rfl rfl rfl (by decide +kernel) (by ((apply iq_nck; (exact q_nilck rfl)))) ?_; refine a_q 3 rfl rfl rfl rfl rfl (by decide +kernel) (by ((apply iq_fld; (exact q_fieldAddr tab rfl rfl rfl rfl rfl rfl rfl)))) ?_; ((refine a_y 4 rfl rfl rfl rfl rfl (by decide +kernel) (by ((exact q_ld1 tab rfl rfl rfl (by first | ((repeat (first | exact List.Mem.head _ | apply List.Mem.tail)); done) | fail) (by first | exact hg0 _ _ _ | exact hg1 _ _ _ | exact hg2 _ _ _)))) ?_)); refine a_q 5 rfl rfl rfl rfl rfl (by decide +kernel) (by ((apply iq_fld; (exact q_fieldAddr tab rfl rfl rfl rfl rfl rfl rfl)))) ?_; ((refine a_q 6 rfl rfl rfl rfl rfl (by decide +kernel) (by ((exact q_ld1 tab rfl rfl rfl (by first | ((repeat (first | exact List.Mem.head _ | apply List.Mem.tail)); done) | fail) (by (rfl))))) ?_))))
      (refine a_e 7 rfl (by decide +kernel) rfl (fun K hK => e_call0 rfl rfl Try.func36 rfl (by decide) (fun w' h => clone_spec B k cb b w' (roOf0 h hr) hk) (fun v B hv => ?_)); obtain ⟨A', c', rfl, rfl⟩ := hv; refine hK _ _ (fun w h => h.subl (by first | ((repeat (first | exact SubL.nil | apply SubL.keep | apply SubL.skip)); done) | fail)) ?_; clear hK)
      (skip)
      (refine a_e 8 rfl (by decide +kernel) rfl (fun K hK => e_bldS tab rfl rfl rfl rfl (by first | exact CellsOf.agg | exact CellsOf.one rfl) (by first | ((repeat (first | exact RepR.zero | exact AppR.nil | apply RepR.succ | apply AppR.cons)); done) | fail) (by first | ((repeat (first | exact FillR.nil | exact LSets.nil | exact LSet.zero | exact CellsOf.agg | exact rfl | exact CellsOf.one rfl | apply FillR.cons | apply LSets.cons | apply LSet.succ)); done) | fail) (fun w => by kernel_rfl) (fun g8 => hK _ _ (fun w h => h.subl (by first | ((repeat (first | exact SubL.nil | apply SubL.keep | apply SubL.skip)); done) | fail)) ?_)); clear hK)
      (skip)
      (refine a_e 9 rfl (by decide +kernel) rfl (fun K hK => e_app tab rfl rfl rfl rowBB (by first | ((repeat (first | exact Ext.head | apply Ext.tail)); done) | fail) (news := [.slice A' b.length c']) (fun w h => SrcAt.blk (h.mem (by first | ((repeat (first | exact List.Mem.head _ | apply List.Mem.tail)); done) | fail)) rfl) (by simp [Value.oneCell']) (by omega) (by omega) (fun A3 c3 hA1 hA2 => hK _ _ (fun w h => h.subl (by first | ((repeat (first | exact SubL.nil | apply SubL.keep | apply SubL.skip)); done) | fail)) ?_)); clear hK)
      ((refine a_q 10 rfl rfl rfl rfl rfl (by decide +kernel) (by ((apply iq_nck; (exact q_nilck rfl)))) ?_; refine a_q 11 rfl rfl rfl rfl rfl (by decide +kernel) (by ((apply iq_fld; (exact q_fieldAddr tab rfl rfl rfl rfl rfl rfl rfl)))) ?_))
      refine a_e 12 rfl (by decide +kernel) rfl (fun K hK => e_set tab rfl rfl rfl rfl (by first | ((repeat (first | exact Upd.head | apply Upd.tail)); done) | fail) (ls0 _ _ _ _) (hK _ _ (fun w h => h.subl (by first | ((repeat (first | exact SubL.nil | apply SubL.keep | apply SubL.skip)); done) | fail)) ?_))
      clear hK
      refine a_done (by decide +kernel) ?_
      have hpart : ∀ (F : List Asn) (w' : World), St (fps [gaA p g]) w (row 30 1 (.slice A3 (zbs.length + 1) c3) (zbs.length + 1) (zvs ++ [.slice A' b.length c']) :: bytesA (.slice A' b.length c') b :: starL (List.zipWith bytesA zvs zbs) :: F) w' → St (fps [gaA p g]) w (partA ⟨.slice A3 (zbs.length + 1) c3, zvs ++ [.slice A' b.length c'], zbs ++ [b]⟩ :: F) w' := fun F w' h => part_shut hzl hzl h
      (repeat (first | refine d_seq ?_ | (refine i_q ?_; (refine d_then ?_))))
      (refine a_begin mixed _ 10 rfl (fun w h => h) ?_)
      ((refine a_q 0 rfl rfl rfl rfl rfl (by decide +kernel) (q_move rfl) ?_; refine a_q 1 rfl rfl rfl rfl rfl (by decide +kernel) (by ((apply iq_nck; (exact q_nilck rfl)))) ?_; refine a_q 2 rfl rfl rfl rfl rfl (by decide +kernel) (by ((apply iq_fld; (exact q_fieldAddr tab rfl rfl rfl rfl rfl rfl rfl)))) ?_; ((refine a_q 3 rfl rfl rfl rfl rfl (by decide +kernel) (by ((exact q_ld1 tab rfl rfl rfl (by first | ((repeat (first | exact List.Mem.head _ | apply List.Mem.tail)); done) | fail) (by first | exact hg0 _ _ _ | exact hg1 _ _ _ | exact hg2 _ _ _)))) ?_)); refine a_q 4 rfl rfl rfl rfl rfl (by decide +kernel) (by (exact q_len tab rfl rfl)) ?_; refine a_q 5 rfl rfl rfl rfl rfl (by decide +kernel) (q_move rfl) ?_; refine a_q 6 rfl rfl rfl rfl rfl (by decide +kernel) (by ((apply iq_nck; (exact q_nilck rfl)))) ?_; refine a_q 7 rfl rfl rfl rfl rfl (by decide +kernel) (by ((apply iq_fld; (exact q_fieldAddr tab rfl rfl rfl rfl rfl rfl rfl)))) ?_; ((refine a_q 8 rfl rfl rfl rfl rfl (by decide +kernel) (by ((exact q_ld1 tab rfl rfl rfl (by first | ((repeat (first | exact List.Mem.head _ | apply List.Mem.tail)); done) | fail) (by first | exact hg0 _ _ _ | exact hg1 _ _ _ | exact hg2 _ _ _)))) ?_)); refine a_q 9 rfl rfl rfl rfl rfl (by decide +kernel) (by (exact q_lss rfl rfl)) ?_))
      refine a_done (by decide +kernel) ?_
      by_cases hfl : zbs.length + 1 < y.many
      · have ea : addG (absG g.xs) i ⟨y.many, zbs, zl⟩ b = ((absG g.xs).set i ⟨y.many, zbs ++ [b], zl⟩, none) := by rw [addG, if_pos hfl]
        rw [ea]
        (repeat (first | (refine i_dst ?_; (first | (refine i_assign ?_; refine l_q rfl rfl rfl (q_assign rfl) ?_) | (refine l_q rfl rfl rfl (by ((apply iq_bld; ((exact q_bld tab rfl rfl rfl (by first | ((repeat (first | exact FillR.nil | exact LSets.nil | exact LSet.zero | exact CellsOf.agg | exact rfl | exact CellsOf.one rfl | apply FillR.cons | apply LSets.cons | apply LSet.succ)); done) | fail) (fun w => by kernel_rfl)))))) ?_))) | refine d_seq ?_ | refine c_region ?_ | refine l_nil ?_ | (refine i_q ?_; (first | refine d_then ?_ | refine d_then_ret ?_)) | refine c_ret ?_ | (refine i_store ?_; ((refine l_setN tab rfl rfl rfl rfl (List.cons_ne_nil _ _) rfl (by first | ((repeat (first | exact Upd.head | apply Upd.tail)); done) | fail) (by first | ((repeat (first | exact LSets.nil | exact LSet.zero | apply LSets.cons | apply LSet.succ)); done) | fail) ?_))) | (refine i_cond ?_; (refine c_ct rfl (by (exact decide_eq_true (by omega))) ?_))))
        exact t_ret2h (hp' := [gaA p ⟨g.mb, g.lv, g.P, g.xs.set i ⟨⟨.slice A3 (zbs.length + 1) c3, zvs ++ [.slice A' b.length c'], zbs ++ [b]⟩, zl, y.many⟩⟩, partA nilP]) Try.results15 (res_cellM tab rfl rfl rfl rfl (by first | ((repeat (first | exact List.Mem.head _ | apply List.Mem.tail)); done) | fail) rfl) rfl (fun w h => (part_nil (hback ⟨⟨.slice A3 (zbs.length + 1) c3, zvs ++ [.slice A' b.length c'], zbs ++ [b]⟩, zl, y.many⟩ _ rfl (hpart _ _ (h.psub (by first | ((repeat (first | exact PSub.nil | exact Ext.head | apply Ext.tail | apply PSub.cons)); done) | fail))))).psub (by first | ((repeat (first | exact PSub.nil | exact Ext.head | apply Ext.tail | apply PSub.cons)); done) | fail)) ⟨_, nilP, rfl, rfl, rfl, absG_set _ _ _, rfl⟩
      · have ea : addG (absG g.xs) i ⟨y.many, zbs, zl⟩ b = ((absG g.xs).set i ⟨y.many, [], zl⟩, some (i, zl, zbs ++ [b])) := by rw [addG, if_neg hfl]
        rw [ea]
        (repeat (first | refine d_seq ?_ | (refine i_q ?_; (refine d_then ?_)) | refine c_skip ?_ | (refine i_cond ?_; (refine c_cf rfl (by (exact decide_eq_false (by omega))) ?_))))
        (refine a_begin mixed [blk gl (pre ++ (.slice A3 (zbs.length + 1) c3) :: .bool zl :: .int .i64 y.many :: post) 101, blk bP [.int .i64 i, .int .i64 j] 99] 13 rfl (fun w h => h.subl (by first | ((repeat (first | exact SubL.nil | apply SubL.keep | apply SubL.skip)); done) | fail)) ?_)
        ((refine a_q 0 rfl rfl rfl rfl rfl (by decide +kernel) (by ((apply iq_fld; (exact q_fieldAddr tab rfl rfl rfl rfl rfl rfl rfl)))) ?_; ((refine a_q 1 rfl rfl rfl rfl rfl (by decide +kernel) (by ((exact q_ld1 tab rfl rfl rfl (by first | ((repeat (first | exact List.Mem.head _ | apply List.Mem.tail)); done) | fail) (by (rfl))))) ?_)); refine a_q 2 rfl rfl rfl rfl rfl (by decide +kernel) (q_move rfl) ?_; refine a_q 3 rfl rfl rfl rfl rfl (by decide +kernel) (by ((apply iq_nck; (exact q_nilck rfl)))) ?_; refine a_q 4 rfl rfl rfl rfl rfl (by decide +kernel) (by ((apply iq_fld; (exact q_fieldAddr tab rfl rfl rfl rfl rfl rfl rfl)))) ?_; ((refine a_q 5 rfl rfl rfl rfl rfl (by decide +kernel) (by ((exact q_ld1 tab rfl rfl rfl (by first | ((repeat (first | exact List.Mem.head _ | apply List.Mem.tail)); done) | fail) (by first | exact hg0 _ _ _ | exact hg1 _ _ _ | exact hg2 _ _ _)))) ?_)); refine a_q 6 rfl rfl rfl rfl rfl (by decide +kernel) (q_move rfl) ?_; refine a_q 7 rfl rfl rfl rfl rfl (by decide +kernel) (by ((apply iq_nck; (exact q_nilck rfl)))) ?_; refine a_q 8 rfl rfl rfl rfl rfl (by decide +kernel) (by ((apply iq_fld; (exact q_fieldAddr tab rfl rfl rfl rfl rfl rfl rfl)))) ?_; ((refine a_q 9 rfl rfl rfl rfl rfl (by decide +kernel) (by ((exact q_ld1 tab rfl rfl rfl (by first | ((repeat (first | exact List.Mem.head _ | apply List.Mem.tail)); done) | fail) (by first | exact hg0 _ _ _ | exact hg1 _ _ _ | exact hg2 _ _ _)))) ?_)); refine a_q 10 rfl rfl rfl rfl rfl (by decide +kernel) (by ((apply iq_bld; ((exact q_bld tab rfl rfl rfl (by first | ((repeat (first | exact FillR.nil | exact LSets.nil | exact LSet.zero | exact CellsOf.agg | exact rfl | exact CellsOf.one rfl | apply FillR.cons | apply LSets.cons | apply LSet.succ)); done) | fail) (fun w => by kernel_rfl)))))) ?_))
        refine a_e 11 rfl (by decide +kernel) rfl (fun K hK => e_alloc tab rfl rfl rfl (fun b11 => hK _ _ (fun w h => h.subl (by first | ((repeat (first | exact SubL.nil | apply SubL.keep | apply SubL.skip)); done) | fail)) ?_))
        clear hK
        (skip)
        refine a_e 12 rfl (by decide +kernel) rfl (fun K hK => e_setN tab rfl rfl rfl rfl (List.cons_ne_nil _ _) rfl (by first | ((repeat (first | exact Upd.head | apply Upd.tail)); done) | fail) (by first | ((repeat (first | exact LSets.nil | exact LSet.zero | apply LSets.cons | apply LSet.succ)); done) | fail) (hK _ _ (fun w h => h.subl (by first | ((repeat (first | exact SubL.nil | apply SubL.keep | apply SubL.skip)); done) | fail)) ?_))
        clear hK
        refine a_done (by decide +kernel) ?_
        (repeat (first | (refine i_dst ?_; (first | (refine i_move ?_; refine l_q rfl rfl rfl (q_move rfl) ?_) | (refine i_assign ?_; refine l_q rfl rfl rfl (q_assign rfl) ?_) | (refine i_load ?_; refine l_q rfl rfl rfl (by ((exact q_ldN tab rfl rfl rfl rfl (by first | ((repeat (first | exact List.Mem.head _ | apply List.Mem.tail)); done) | fail) (by first | ((repeat (first | exact TakeR.nil | apply TakeR.cons | apply CutR.zero | apply CutR.skip)); done) | fail)))) ?_) | (refine l_q rfl rfl rfl (by (first | (apply iq_fld; (exact q_fieldAddr tab rfl rfl rfl rfl rfl rfl rfl)) | (apply iq_nck; (exact q_nilck rfl)))) ?_))) | refine d_seq ?_ | refine c_region ?_ | refine l_nil ?_ | (refine i_q ?_; (refine d_then ?_)) | refine c_ret ?_ | (refine i_store ?_; (first | (refine l_setN tab rfl rfl rfl rfl (List.cons_ne_nil _ _) rfl (by first | ((repeat (first | exact Upd.head | apply Upd.tail)); done) | fail) (by first | ((repeat (first | exact LSets.nil | exact LSet.zero | apply LSets.cons | apply LSet.succ)); done) | fail) ?_) | (refine l_set tab rfl rfl rfl rfl (by first | ((repeat (first | exact Upd.head | apply Upd.tail)); done) | fail) (by first | exact ls0 _ _ _ _ | exact ls1 _ _ _ _ | exact ls2 _ _ _ _) ?_)))))
        exact t_ret2h (hp' := [gaA p ⟨g.mb, g.lv, g.P, g.xs.set i ⟨nilP, zl, y.many⟩⟩, partA ⟨.slice A3 (zbs.length + 1) c3, zvs ++ [.slice A' b.length c'], zbs ++ [b]⟩]) Try.results15 (res_cellM tab rfl rfl rfl rfl (by first | ((repeat (first | exact List.Mem.head _ | apply List.Mem.tail)); done) | fail) rfl) rfl (fun w1 h => by
          have h1 := hpart [blk gl (pre ++ (.slice none 0 0) :: .bool zl :: .int .i64 y.many :: post) 101, blk p [.map (some g.mb), .slice (some ⟨gl, 0, none⟩) g.xs.length cg] 97, mapA (.int .i64) g.mb (pf g.P), starL ((g.xs.map fun x => partA x.p).set i emp)] _ (h.psub (by first | ((repeat (first | exact PSub.nil | exact Ext.head | apply Ext.tail | apply PSub.cons)); done) | fail))
          have h2 : St (fps [gaA p g]) w (partA ⟨.slice A3 (zbs.length + 1) c3, zvs ++ [.slice A' b.length c'], zbs ++ [b]⟩ :: [gaA p ⟨g.mb, g.lv, g.P, g.xs.set i ⟨nilP, zl, y.many⟩⟩]) w1 := hback2 ⟨nilP, zl, y.many⟩ _ _ rfl ((part_nil h1).psub (by first | ((repeat (first | exact PSub.nil | exact Ext.head | apply Ext.tail | apply PSub.cons)); done) | fail))
          exact h2.psub (by first | ((repeat (first | exact PSub.nil | exact Ext.head | apply Ext.tail | apply PSub.cons)); done) | fail)) ⟨_, _, rfl, rfl, rfl, absG_set _ _ _, rfl⟩
end Go.Proofs.Ytidekbijkknlmaa

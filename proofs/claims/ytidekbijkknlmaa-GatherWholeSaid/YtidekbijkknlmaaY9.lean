/-
  Layer 19: GatherOne, walked.
-/
import Derived.Test.YtidekbijkknlmaaY7
set_option linter.unusedVariables false
set_option maxRecDepth 100000
namespace Go.Proofs.Ytidekbijkknlmaa
open Go.RowKit
attribute [local irreducible] TL TC TQ TK TO Qt TA
theorem plL_ones : ∀ (ls : List LC) (i t : Nat), (∀ x ∈ ls, x.n = 1 ∧ x.stim = false) → t < ls.length → (plL i ls)[t]? = some (some (i + t, 0))
  | [], i, t, _, h => by simp at h
  | x :: l, i, 0, hx, _ => by
    obtain ⟨h1, h2⟩ := hx x (by simp)
    rw [plL, h1, h2]
    rfl
  | x :: l, i, t + 1, hx, h => by
    obtain ⟨h1, h2⟩ := hx x (by simp)
    have ih := plL_ones l (i + 1) t (fun y hy => hx y (by simp [hy])) (by simpa using h)
    rw [plL, h1, h2]
    rw [show i + 1 + t = i + (t + 1) by omega] at ih
    exact ih
theorem takeG_one {P : List (Option (Nat × Nat))} {S : List GL} {c : Nat} {lo : Bool} {b : List Int} {s : GL} (hc : c < 64) (hP : P[c]? = some (some (c, 0))) (hs : S[c]? = some s) (hm : s.many = 1) : takeG P S 4 (if lo = true then c + 64 else c) b = (S.set c ⟨1, [], lo⟩, some (c, lo, [b])) := by
  have e1 : (if 64 ≤ (if lo = true then c + 64 else c) then (if lo = true then c + 64 else c) - 64 else (if lo = true then c + 64 else c)) = c := by
    cases lo
    · simp; omega
    · simp
  have e2 : decide (64 ≤ (if lo = true then c + 64 else c)) = lo := by
    cases lo
    · simp; omega
    · simp
  rw [takeG, if_pos rfl, e1, e2, hP]
  simp only [Option.join_some, hs, putG, if_true, addG, hm, List.length_nil]
  rfl
theorem b1_blk1 {w : World} {b : Nat} {A : Option Addr} {c : Nat} {l : List Int} (h : (blk b [.slice A l.length c] 30).C w) (h0 : Ro (fps []) w (roB A l.length l)) (h1 : l.length ≤ c) (h2 : c ≤ maxLen) : InS (fps []) w 1 (InB1 (fps []) w) (some ⟨b, 0, none⟩) 1 [l] :=
  InS.blk (xs := [l]) [[.slice A l.length c]] (by simpa using Ro.empty h) rfl (fun r hr => by simp at hr; subst hr; rfl) (fun i r y hr hy => by
    match i, hr, hy with
    | 0, hr, hy => simp at hr hy; subst hr hy; exact ⟨A, _, rfl, h0, h1, h2⟩
    | i + 1, hr, hy => simp at hr)
def InB (v : List Value) (x : Bool) : Prop := v = [.bool x]
def oneL (g : Nat) : LC := ⟨0, some ⟨g, 0, none⟩, 1, 1, false, 0, 0, 0, false, false⟩
section
variable {P : Program} {n : Nat} {S : Nat → Prop} {w0 : World} {Q : Exit → Act → World → Prop} {ops : Array Oper} {env : Env} {hp : List Asn}
/-- What follows a region, said once. -/
theorem l_join {α : Type} {l : List Oper} {rest : Code} (p : α → Prop) (E : α → Env) (ks : List Nat) {pe : Env} (hk : Pick env ks pe) (H : α → List Asn) (h : ∀ a, p a → TC P n S w0 Q rest (E a ++ pe) (H a))
    (k : ∀ Q' : Exit → Act → World → Prop, (∀ a, p a → ∀ env hp, Sub (E a ++ pe) env → (∀ w, St S w0 hp w → St S w0 (H a) w) → TQ n S w0 Q' .normal env hp) → TL P n S w0 Q' ops l env hp) : TL P n S w0 (ThenC P rest Q) ops l env hp :=
  k _ (fun a ha _ _ hE hH => d_then (c_sub hE hH (h a ha)))
end
attribute [local irreducible] blk row bytesA starL memA segA roB
attribute [local irreducible] mapA partA gaA rgA
set_option maxHeartbeats 8000000 in
theorem gatherOne_walk (W : World) (many : Nat) (hmany : many ≤ 255) (Al : Option Addr) (nl cl : Nat) (os : List Int) (hos : (roB Al nl os).C W) (hnl : nl ≤ cl) (hcl : cl ≤ maxLen) (Ab : Option Addr) (nb cb : Nat) (bs : List (List Int)) (hbs : InS (fps []) W 1 (InB1 (fps []) W) Ab nb bs) (hnb : nb ≤ cb) (hcb : cb ≤ maxLen) (Ao : Option Addr) (no co : Nat) (ov : List Bool) (hov : InS (fps []) W 1 InB Ao no ov) (hno : no ≤ co) (hco : co ≤ maxLen) :
    Calls Try.prog 9 #[.int .u8 many, .slice Al nl cl, .slice Ab nb cb, .slice Ao no co] W (Ret W [] fun v _ => v = .bool true) := by
  have hro : Ro (fps []) W (roB Al nl os) := Ro.empty hos
  have hol := roB_len hos
  have hoo := roB_oct hos
  have hbl := hbs.len
  have hvl := hov.len
  refine enter (vs := [.int .u8 many, .slice Al nl cl, .slice Ab nb cb, .slice Ao no co]) Try.func9 rfl Try.ntmps9 rfl (Hold.nil W) ?_
  have hmx : maxLen = 2 ^ 63 - 1 := rfl
  (repeat (first | (refine i_dst ?_; ((refine i_assign ?_; refine l_q rfl rfl rfl (q_assign rfl) ?_))) | refine d_seq ?_ | refine c_region ?_ | refine l_nil ?_ | (refine i_q ?_; (refine d_then ?_))))
  (refine l_call0 rfl rfl Try.func11 rfl (by decide) (fun w' h => shown19_spec w') (fun v B hv => ?_); obtain ⟨rfl, rfl⟩ := hv)
  (repeat (first | (refine i_dst ?_; (first | (refine i_move ?_; refine l_q rfl rfl rfl (q_move rfl) ?_) | (refine i_assign ?_; refine l_q rfl rfl rfl (q_assign rfl) ?_) | (refine i_bin ?_; refine l_q rfl rfl rfl (by (first | exact q_add rfl rfl (by (first | exact wr_i64 (by omega) | rfl)) | exact q_rem rfl rfl (by omega) (Int.tmod_eq_emod_of_nonneg (by omega)))) ?_) | (refine l_q rfl rfl rfl (by ((apply iq_cv; (exact q_conv tab rfl rfl rfl (by (exact wr_i64 (by omega))))))) ?_))) | refine d_seq ?_ | refine c_region ?_ | refine l_nil ?_ | refine c_block ?_ | (refine i_q ?_; (refine d_then ?_))))
  obtain ⟨n, hn⟩ : ∃ n : Nat, n = many % 9 + 1 := ⟨_, rfl⟩
  have en : (many : Int) % 9 + 1 = (n : Int) := by omega
  rw [en]
  have hn9 : 1 ≤ n ∧ n ≤ 9 := by omega
  clear en hn
  refine d_loop (T := Nat × Value × List LC) [1, 2, 3, 9, 10, 24] (fun t => [(25, .int .i64 t.1), (11, t.2.1)]) [] (fun t => [row 45 8 t.2.1 t.1 (t.2.2.flatMap lcC)]) (fun t => t.1 ≤ n ∧ t.2.2.length = t.1 ∧ ∀ x ∈ t.2.2, (x.n = 1 ∧ x.stim = false) ∧ x.n ≤ x.c ∧ x.c ≤ maxLen) (fun t => n - t.1) (0, .slice none 0 0, []) (by first | ((repeat (first | exact Pick.nil | exact rfl | apply Pick.cons)); done) | fail) ⟨Nat.zero_le _, rfl, fun x h => by cases h⟩ (by first | ((repeat (first | exact trivial | exact rfl | apply Sub.cons | exact look_int rfl (by omega) | exact look_int rfl (by simp) | exact look_int rfl (by simp; omega))); done) | fail) (fun w h => (st_nil h _ 8).psub (by first | ((repeat (first | exact PSub.nil | exact Ext.head | apply Ext.tail | apply PSub.cons)); done) | fail)) ?_
  rintro ⟨i, lv, xs⟩ ⟨hi, hxl, hx⟩
  dsimp only at hi hxl hx ⊢
  refine c_fact (p := ∃ A1 c1, lv = .slice A1 i c1 ∧ i ≤ c1 ∧ c1 ≤ maxLen) (fun w h => ?_) ?_
  · obtain ⟨A1, c1, e1, e2, e3, -⟩ := row_slice (h.get (i := 0) rfl)
    exact ⟨A1, c1, e1, e2, e3⟩
  rintro ⟨A1, c1, rfl, hc1, hc2⟩
  by_cases hlt : i < n
  · (repeat (first | (refine i_dst ?_; (first | (refine i_move ?_; refine l_q rfl rfl rfl (q_move rfl) ?_) | (refine i_bin ?_; refine l_q rfl rfl rfl (by (exact q_lss rfl rfl)) ?_))) | refine d_seq ?_ | refine c_region ?_ | refine l_nil ?_ | refine c_block ?_ | (refine i_q ?_; (refine d_then ?_)) | refine c_skip ?_ | (refine i_cond ?_; (refine c_ct rfl (by (exact decide_eq_true (by omega))) ?_))))
    refine l_make (l := [.slice none 0 0]) rfl rfl rfl (fun w => run_makeN (m := 1) tab rfl rfl rfl (by decide) (by decide) w) (fun g28 => ?_)
    (repeat ((refine i_dst ?_; (first | (refine i_bldS ?_; refine l_bldS tab rfl rfl rfl rfl (by first | exact CellsOf.agg | exact CellsOf.one rfl) (by first | ((repeat (first | exact RepR.zero | exact AppR.nil | apply RepR.succ | apply AppR.cons)); done) | fail) (by first | ((repeat (first | exact FillR.nil | exact LSets.nil | exact LSet.zero | exact CellsOf.agg | exact rfl | exact CellsOf.one rfl | apply FillR.cons | apply LSets.cons | apply LSet.succ)); done) | fail) (fun w => by kernel_rfl) (fun _ => ?_)) | (refine l_q rfl rfl rfl (by ((apply iq_bld; ((exact q_bld tab rfl rfl rfl (by first | ((repeat (first | exact FillR.nil | exact LSets.nil | exact LSet.zero | exact CellsOf.agg | exact rfl | exact CellsOf.one rfl | apply FillR.cons | apply LSets.cons | apply LSet.succ)); done) | fail) (fun w => by kernel_rfl)))))) ?_)))))
    rename_i g30
    (refine l_app tab rfl rfl rfl rowL19 (by first | ((repeat (first | exact Ext.head | apply Ext.tail)); done) | fail) (news := lcC (oneL g28)) (fun w h => SrcAt.blk (h.mem (X := blk g30 _ _) (by first | ((repeat (first | exact List.Mem.head _ | apply List.Mem.tail)); done) | fail)) rfl) (by simp [lcC, oneL, Value.oneCell']) (by omega) (by omega) (fun A6 c6 hA1 hA2 => ?_))
    (repeat (first | (refine i_dst ?_; (first | (refine i_move ?_; refine l_q rfl rfl rfl (q_move rfl) ?_) | (refine i_assign ?_; refine l_q rfl rfl rfl (q_assign rfl) ?_) | (refine i_bin ?_; refine l_q rfl rfl rfl (by (exact q_add rfl rfl (by (exact wr_i64 (by omega))))) ?_))) | refine c_region ?_ | refine l_nil ?_ | (refine i_q ?_; (first | refine d_then ?_ | refine t_then ?_ | refine t_block ?_))))
    refine k_again (i + 1, .slice A6 (i + 1) c6, xs ++ [oneL g28]) ⟨by dsimp only; omega, by dsimp only; rw [List.length_append, List.length_singleton]; omega, fun x hx' => ?_⟩ (by dsimp only; omega) (by first | ((repeat (first | exact trivial | exact rfl | apply Sub.cons | exact look_int rfl (by omega) | exact look_int rfl (by simp) | exact look_int rfl (by simp; omega))); done) | fail) (fun w h => ?_)
    · dsimp only at hx'
      rcases List.mem_append.1 hx' with hx' | hx'
      · exact hx x hx'
      · rw [List.mem_singleton] at hx'
        subst hx'
        exact ⟨⟨rfl, rfl⟩, Nat.le_refl _, by show 1 ≤ maxLen; omega⟩
    · dsimp only
      rw [List.flatMap_append]
      exact h.psub (by first | ((repeat (first | exact PSub.nil | exact Ext.head | apply Ext.tail | apply PSub.cons)); done) | fail)
  · have hin : i = n := by omega
    subst hin
    have hxm : ∀ x ∈ xs, x.n ≤ 1000 := fun x h => by have := (hx x h).1.1; omega
    (repeat (first | (refine i_dst ?_; (first | (refine i_move ?_; refine l_q rfl rfl rfl (q_move rfl) ?_) | (refine i_bin ?_; refine l_q rfl rfl rfl (by (exact q_lss rfl rfl)) ?_))) | refine d_seq ?_ | refine c_region ?_ | refine l_nil ?_ | (refine i_q ?_; (first | refine d_then ?_ | refine d_then_exit ?_ | refine t_then_exit ?_ | refine t_block_eq rfl ?_)) | refine c_exit ?_ | (refine i_cond ?_; ((refine c_cf rfl (by (((first | (simp; done) | fail)))) ?_)))))
    (refine l_call0 rfl rfl Try.func13 rfl (by decide) (fun w' h => gnew_spec A1 i c1 xs w' (lc_in hxl (Ro.empty (h.mem (X := row _ 8 (.slice A1 i c1) i (xs.flatMap lcC)) (by first | ((repeat (first | exact List.Mem.head _ | apply List.Mem.tail)); done) | fail))) (fun x h => (hx x h).2)) hc1 hc2 (by omega) hxm) (fun v B hv => ?_); obtain ⟨p, g0, rfl, rfl, hP0, hS0⟩ := hv)
    have hPl0 := plok_new hP0 hS0
    have hG0 : GOk (absG g0.xs) := by rw [hS0]; exact gok_new hxm
    have hm0 : (∀ s ∈ absG g0.xs, s.many = 1) ∧ (absG g0.xs).length = i := by
      rw [hS0]
      refine ⟨fun s hs => ?_, by rw [newG, List.length_map]; exact hxl⟩
      obtain ⟨x, hx', rfl⟩ := List.mem_map.1 hs
      exact (hx x hx').1.1
    have hpo : ∀ t, t < i → (plL 0 xs)[t]? = some (some (t, 0)) := fun t ht => by
      have := plL_ones xs 0 t (fun x h => (hx x h).1) (by omega)
      rw [Nat.zero_add] at this
      exact this
    (repeat (first | (refine i_dst ?_; (first | (refine i_move ?_; refine l_q rfl rfl rfl (q_move rfl) ?_) | (refine i_assign ?_; refine l_q rfl rfl rfl (q_assign rfl) ?_) | (refine i_blt ?_; refine l_q rfl rfl rfl (by (first | exact q_len tab rfl rfl | exact q_minN rfl rfl)) ?_) | (refine i_sl ?_; refine l_q rfl rfl rfl (by (exact q_slHi tab rfl rfl rfl rfl (by first | (with_reducible exact Int.toNat_natCast _) | (with_reducible exact Int.toNat_zero) | (with_reducible exact Int.toNat_one) | rfl) (by (omega)))) ?_))) | refine d_seq ?_ | refine c_region ?_ | refine l_nil ?_ | refine c_block ?_ | (refine i_q ?_; (refine d_then ?_))))
    refine d_loop (T := Nat × GaV) [2, 3, 9, 10, 12, 39, 40] (fun t => [(41, .int .i64 t.1)]) [] (fun t => [gaA p t.2]) (fun t => t.1 ≤ min nl 40 ∧ t.2.P = plL 0 xs ∧ GOk (absG t.2.xs) ∧ PlOk t.2.P t.2.xs.length ∧ (∀ s ∈ absG t.2.xs, s.many = 1) ∧ (absG t.2.xs).length = i) (fun t => min nl 40 - t.1) (0, g0) (by first | ((repeat (first | exact Pick.nil | exact rfl | apply Pick.cons)); done) | fail) ⟨Nat.zero_le _, hP0, hG0, hPl0, hm0.1, hm0.2⟩ (by first | ((repeat (first | exact trivial | exact rfl | apply Sub.cons | exact look_int rfl (by omega) | exact look_int rfl (by simp) | exact look_int rfl (by simp; omega))); done) | fail) (fun w h => h.psub (by first | ((repeat (first | exact PSub.nil | exact Ext.head | apply Ext.tail | apply PSub.cons)); done) | fail)) ?_
    clear hP0 hG0 hPl0 hS0 hm0 g0
    rintro ⟨j, g⟩ ⟨hj, hP, hG, hPl, hm1, hm2⟩
    dsimp only at hj hP hG hPl hm1 hm2 ⊢
    by_cases hjl : j < min nl 40
    · obtain ⟨o, hoj⟩ : ∃ o, os[j]? = some o := ⟨_, List.getElem?_eq_getElem (by omega)⟩
      have ho8 := hoo o (List.mem_of_getElem? hoj)
      obtain ⟨c, rfl⟩ : ∃ c : Nat, o = c := ⟨o.toNat, by omega⟩
      have hcv : (bv os)[j]? = some (.int .u8 (c : Int)) := by simp [bv, hoj]
      have hcn : c % i < i := Nat.mod_lt _ (by omega)
      have emod : (c : Int) % (i : Int) = ((c % i : Nat) : Int) := (Int.natCast_emod c i).symm
      obtain ⟨m, hm⟩ : ∃ m, m = c % i := ⟨_, rfl⟩
      rw [← hm] at hcn emod
      clear hm
      have e64 : (m : Int) + 64 = ((m + 64 : Nat) : Int) := by omega
      (repeat (first | (refine i_dst ?_; (first | (refine i_move ?_; refine l_q rfl rfl rfl (q_move rfl) ?_) | (refine i_assign ?_; refine l_q rfl rfl rfl (q_assign rfl) ?_) | (refine i_load ?_; refine l_q rfl rfl rfl (by (exact q_ldS tab rfl rfl rfl (by (exact fun w h => roB_src (h.ro (by assumption)))) (by (assumption)))) ?_) | (refine i_bin ?_; refine l_q rfl rfl rfl (by (first | exact q_lss rfl rfl | exact q_rem rfl rfl (by omega) (Int.tmod_eq_emod_of_nonneg (by omega)))) ?_) | (refine i_blt ?_; refine l_q rfl rfl rfl (by (exact q_len tab rfl rfl)) ?_) | (refine i_ix ?_; refine l_q rfl rfl rfl (by (exact q_ixS1 tab rfl rfl rfl rfl (by (exact fun w h => roB_src (h.ro (by assumption)))) (by first | (with_reducible exact Int.toNat_natCast _) | (with_reducible exact Int.toNat_zero) | (with_reducible exact Int.toNat_one) | rfl) (by (omega)) (by (omega)))) ?_) | (refine i_alloc ?_; (refine l_allocA tab rfl rfl (fun _ => ?_))) | (refine l_q rfl rfl rfl (by (first | (apply iq_cv; (exact q_conv tab rfl rfl rfl (by (exact wr_u8 (by omega))))) | (apply iq_bld; ((exact q_bld tab rfl rfl rfl (by first | ((repeat (first | exact FillR.nil | exact LSets.nil | exact LSet.zero | exact CellsOf.agg | exact rfl | exact CellsOf.one rfl | apply FillR.cons | apply LSets.cons | apply LSet.succ)); done) | fail) (fun w => by kernel_rfl)))))) ?_))) | refine d_seq ?_ | refine c_region ?_ | refine l_nil ?_ | refine c_block ?_ | (refine i_q ?_; (refine d_then ?_)) | refine c_skip ?_ | (refine i_store ?_; ((refine l_setN tab rfl rfl rfl rfl (List.cons_ne_nil _ _) rfl (by first | ((repeat (first | exact Upd.head | apply Upd.tail)); done) | fail) (by first | ((repeat (first | exact LSets.nil | exact LSet.zero | apply LSets.cons | apply LSet.succ)); done) | fail) ?_))) | (refine i_cond ?_; (refine c_ct rfl (by (exact decide_eq_true (by omega))) ?_))))
      rename_i b15
      rw [emod]
      refine d_if_join (α := Option Addr × Nat × List Int) (fun z => z.2.2.length ≤ 7 ∧ Ro (fps []) W (roB z.1 z.2.2.length z.2.2) ∧ z.2.2.length ≤ z.2.1 ∧ z.2.1 ≤ maxLen) (fun _ => []) [2, 3, 9, 10, 12, 13, 14, 15, 39, 40, 41] (by first | ((repeat (first | exact Pick.nil | exact rfl | apply Pick.cons)); done) | fail) (fun z => [blk b15 [.int .u8 4, .int .u8 (m : Int), .slice z.1 z.2.2.length z.2.1] 32, gaA p g]) ?_ (fun Q' hj1 _ _ => ?_)
      rotate_left
      · by_cases hjb : j < nb
        · obtain ⟨bb, hbj⟩ : ∃ x, bs[j]? = some x := ⟨_, List.getElem?_eq_getElem (by omega)⟩
          obtain ⟨bx, ox, r1, rfl, -, ⟨Ax, cx, rfl, hrx, hx1, hx2⟩, hcx⟩ := hbs.get (by omega) hbj
          have hx0 : ∀ hp w', St (fps []) W hp w' → w'.cell? ⟨bx, ox + (j : Int).toNat, none⟩ = some (.slice Ax bb.length cx) := fun hp w' h => by
            have := (hcx hp w' h) 0 _ rfl
            simpa using this
          have hcut := hrx.take (k := min bb.length 7) (by omega)
          have hl7 : (bb.take (min bb.length 7)).length = min bb.length 7 := by rw [List.length_take]; omega
          clear hcx
          (repeat ((refine i_cond ?_; (refine c_ct rfl (by (exact decide_eq_true (by omega))) ?_))))
          (refine a_begin mixed [] 13 rfl (fun w h => h.subl (by first | ((repeat (first | exact SubL.nil | apply SubL.keep | apply SubL.skip)); done) | fail)) ?_)
          ((refine a_q 0 rfl rfl rfl rfl rfl (by decide +kernel) (q_move rfl) ?_; refine a_q 1 rfl rfl rfl rfl rfl (by decide +kernel) (q_move rfl) ?_; refine a_q 2 rfl rfl rfl rfl rfl (by decide +kernel) (by (exact q_indexAddr1 tab rfl rfl rfl rfl (by omega))) ?_; (refine a_q 3 rfl rfl rfl rfl rfl (by decide +kernel) (by (exact q_ldc tab rfl rfl rfl (by assumption))) ?_); refine a_q 4 rfl rfl rfl rfl rfl (by decide +kernel) (q_move rfl) ?_; refine a_q 5 rfl rfl rfl rfl rfl (by decide +kernel) (q_move rfl) ?_; refine a_q 6 rfl rfl rfl rfl rfl (by decide +kernel) (by (exact q_indexAddr1 tab rfl rfl rfl rfl (by omega))) ?_; (refine a_q 7 rfl rfl rfl rfl rfl (by decide +kernel) (by (exact q_ldc tab rfl rfl rfl (by assumption))) ?_); refine a_q 8 rfl rfl rfl rfl rfl (by decide +kernel) (by (exact q_len tab rfl rfl)) ?_; refine a_q 9 rfl rfl rfl rfl rfl (by decide +kernel) (by (exact q_minN rfl rfl)) ?_; refine a_q 10 rfl rfl rfl rfl rfl (by decide +kernel) (by (exact q_slHi tab rfl rfl rfl rfl (by first | (with_reducible exact Int.toNat_natCast _) | (with_reducible exact Int.toNat_zero) | (with_reducible exact Int.toNat_one) | rfl) (by (omega)))) ?_; refine a_q 11 rfl rfl rfl rfl rfl (by decide +kernel) (by ((apply iq_fld; (exact q_fieldAddr tab rfl rfl rfl rfl rfl rfl rfl)))) ?_))
          (refine a_e 12 rfl (by decide +kernel) rfl (fun K hK => e_set tab rfl rfl rfl rfl (by first | ((repeat (first | exact Upd.head | apply Upd.tail)); done) | fail) (by first | ((repeat (first | exact LSet.zero | apply LSet.succ)); done) | fail) (hK _ _ (fun w h => h.subl (by first | ((repeat (first | exact SubL.nil | apply SubL.keep | apply SubL.skip)); done) | fail)) ?_)); clear hK)
          refine a_done (by decide +kernel) ?_
          refine hj1 (Ax, cx, bb.take (min bb.length 7)) ⟨by dsimp only; rw [hl7]; omega, by dsimp only; rw [hl7]; exact hcut, by dsimp only; rw [hl7]; omega, hx2⟩ _ _ (by first | ((repeat (first | exact trivial | exact rfl | apply Sub.cons | exact look_int rfl (by omega) | exact look_int rfl (by simp) | exact look_int rfl (by simp; omega))); done) | fail) (fun w h => ?_)
          dsimp only
          rw [hl7]
          exact h.psub (by first | ((repeat (first | exact PSub.nil | exact Ext.head | apply Ext.tail | apply PSub.cons)); done) | fail)
        · (repeat (first | refine c_skip ?_ | (refine i_cond ?_; (refine c_cf rfl (by (exact decide_eq_false (by omega))) ?_))))
          exact hj1 (none, 0, []) ⟨Nat.zero_le _, ro_nil W [], Nat.le_refl _, Nat.zero_le _⟩ _ _ (by first | ((repeat (first | exact trivial | exact rfl | apply Sub.cons | exact look_int rfl (by omega) | exact look_int rfl (by simp) | exact look_int rfl (by simp; omega))); done) | fail) (fun w h => h.psub (by first | ((repeat (first | exact PSub.nil | exact Ext.head | apply Ext.tail | apply PSub.cons)); done) | fail))
      · rintro ⟨Az, cz, bb⟩ ⟨hb7, hrz, hz1, hz2⟩
        dsimp only at hb7 hrz hz1 hz2 ⊢
        (repeat (first | (refine i_dst ?_; (first | (refine i_move ?_; refine l_q rfl rfl rfl (q_move rfl) ?_) | (refine i_bin ?_; refine l_q rfl rfl rfl (by (exact q_lss rfl rfl)) ?_) | (refine i_blt ?_; refine l_q rfl rfl rfl (by (exact q_len tab rfl rfl)) ?_))) | refine d_seq ?_ | refine c_region ?_))
        refine l_join (α := Bool) (fun _ => True) (fun lo => [(16, .bool lo)]) [2, 3, 9, 10, 12, 13, 14, 15, 39, 40, 41] (by first | ((repeat (first | exact Pick.nil | exact rfl | apply Pick.cons)); done) | fail) (fun _ => [blk b15 [.int .u8 4, .int .u8 (m : Int), .slice Az bb.length cz] 32, gaA p g]) ?_ (fun Q' hj2 => ?_)
        rotate_left
        · by_cases hio : j < no
          · obtain ⟨lo, hlo⟩ : ∃ x, ov[j]? = some x := ⟨_, List.getElem?_eq_getElem (by omega)⟩
            obtain ⟨bx, ox, r1, rfl, -, hpv, hcx⟩ := hov.get (by omega) hlo
            unfold InB at hpv
            subst hpv
            have hx0 : ∀ hp w', St (fps []) W hp w' → w'.cell? ⟨bx, ox + (j : Int).toNat, none⟩ = some (.bool lo) := fun hp w' h => by
              have := (hcx hp w' h) 0 _ rfl
              simpa using this
            clear hcx
            (repeat (first | (refine i_dst ?_; (first | (refine i_move ?_; refine l_q rfl rfl rfl (q_move rfl) ?_) | (refine i_assign ?_; refine l_q rfl rfl rfl (q_assign rfl) ?_) | (refine i_load ?_; refine l_q rfl rfl rfl (by (exact q_ldc tab rfl rfl rfl (by assumption))) ?_) | (refine i_ix ?_; refine l_q rfl rfl rfl (by (exact q_indexAddr1 tab rfl rfl rfl rfl (by omega))) ?_) | refine l_q rfl rfl rfl (by (exact q_pick_t rfl rfl)) ?_)) | refine l_nil ?_ | (refine i_guard ?_; (first | refine l_gt rfl rfl rfl ?_ | refine l_gtd rfl rfl rfl (by (exact decide_eq_true (by omega))) ?_))))
            exact hj2 lo trivial _ _ (by first | ((repeat (first | exact trivial | exact rfl | apply Sub.cons | exact look_int rfl (by omega) | exact look_int rfl (by simp) | exact look_int rfl (by simp; omega))); done) | fail) (fun w h => h.psub (by first | ((repeat (first | exact PSub.nil | exact Ext.head | apply Ext.tail | apply PSub.cons)); done) | fail))
          · (repeat (first | (refine i_dst ?_; (first | (refine i_assign ?_; refine l_q rfl rfl rfl (q_assign rfl) ?_) | refine l_q rfl rfl rfl (by (exact q_pick_f rfl rfl)) ?_)) | refine l_nil ?_ | (refine i_guard ?_; (first | refine l_gf rfl rfl rfl rfl rfl rfl ?_ | refine l_gfd rfl rfl rfl (by (exact decide_eq_false (by omega))) rfl rfl ?_))))
            exact hj2 false trivial _ _ (by first | ((repeat (first | exact trivial | exact rfl | apply Sub.cons | exact look_int rfl (by omega) | exact look_int rfl (by simp) | exact look_int rfl (by simp; omega))); done) | fail) (fun w h => h.psub (by first | ((repeat (first | exact PSub.nil | exact Ext.head | apply Ext.tail | apply PSub.cons)); done) | fail))
        · intro lo _
          (repeat (first | (refine i_dst ?_; ((refine i_move ?_; refine l_q rfl rfl rfl (q_move rfl) ?_))) | refine d_seq ?_ | refine c_region ?_ | refine l_nil ?_ | (refine i_q ?_; (refine d_then ?_))))
          refine d_if_join (α := Unit) (fun _ => True) (fun _ => [(16, .bool lo)]) [2, 3, 9, 10, 12, 13, 14, 15, 39, 40, 41] (by first | ((repeat (first | exact Pick.nil | exact rfl | apply Pick.cons)); done) | fail) (fun _ => [blk b15 [.int .u8 4, .int .u8 (((if lo = true then m + 64 else m) : Nat) : Int), .slice Az bb.length cz] 32, gaA p g]) (fun _ _ => ?_) (fun Q' hj3 _ _ => ?_)
          rotate_left
          · cases lo with
            | true =>
              (repeat (first | (refine i_dst ?_; (first | (refine i_load ?_; refine l_q rfl rfl rfl (by ((exact q_ld1 tab rfl rfl rfl (by first | ((repeat (first | exact List.Mem.head _ | apply List.Mem.tail)); done) | fail) (by (rfl))))) ?_) | (refine i_bin ?_; refine l_q rfl rfl rfl (by (exact q_add rfl rfl (by (exact wr_u8 (by omega))))) ?_) | (refine l_q rfl rfl rfl (by ((apply iq_fld; (exact q_fieldAddr tab rfl rfl rfl rfl rfl rfl rfl)))) ?_))) | refine c_region ?_ | refine l_nil ?_ | (refine i_store ?_; ((refine l_set tab rfl rfl rfl rfl (by first | ((repeat (first | exact Upd.head | apply Upd.tail)); done) | fail) (by first | ((repeat (first | exact LSet.zero | apply LSet.succ)); done) | fail) ?_))) | (refine i_cond ?_; (refine c_ct rfl (by (rfl)) ?_))))
              rw [e64]
              exact hj3 () trivial _ _ (by first | ((repeat (first | exact trivial | exact rfl | apply Sub.cons | exact look_int rfl (by omega) | exact look_int rfl (by simp) | exact look_int rfl (by simp; omega))); done) | fail) (fun w h => h.psub (by first | ((repeat (first | exact PSub.nil | exact Ext.head | apply Ext.tail | apply PSub.cons)); done) | fail))
            | false =>
              (repeat (first | refine c_skip ?_ | (refine i_cond ?_; (refine c_cf rfl (by (rfl)) ?_))))
              exact hj3 () trivial _ _ (by first | ((repeat (first | exact trivial | exact rfl | apply Sub.cons | exact look_int rfl (by omega) | exact look_int rfl (by simp) | exact look_int rfl (by simp; omega))); done) | fail) (fun w h => h.psub (by first | ((repeat (first | exact PSub.nil | exact Ext.head | apply Ext.tail | apply PSub.cons)); done) | fail))
          · (repeat (first | (refine i_dst ?_; (first | (refine i_move ?_; refine l_q rfl rfl rfl (q_move rfl) ?_) | (refine i_load ?_; refine l_q rfl rfl rfl (by ((exact q_ldN tab rfl rfl rfl rfl (by first | ((repeat (first | exact List.Mem.head _ | apply List.Mem.tail)); done) | fail) (by first | ((repeat (first | exact TakeR.nil | apply TakeR.cons | apply CutR.zero | apply CutR.skip)); done) | fail)))) ?_))) | refine d_seq ?_ | refine c_region ?_))
            (refine l_call1 (X := gaA p g) (by first | ((repeat (first | exact Ext.head | apply Ext.tail)); done) | fail) rfl rfl Try.func15 rfl (by decide) (fun w' h => gtook_spec h.split hPl hG 4 (if lo = true then m + 64 else m) (by omega) (by split <;> omega) Az bb.length cz bb (h.roOf hrz (fun X hX => by simp at hX; simp [hX])) (by omega)) (fun v B hv => ?_); obtain ⟨g1, As, cs, vs, rfl, rfl, hP1, hS1, -, -, hG1, hPl1⟩ := hv)
            obtain ⟨s, hs⟩ : ∃ s, (absG g.xs)[m]? = some s := ⟨_, List.getElem?_eq_getElem (by omega)⟩
            have ht := takeG_one (P := g.P) (S := absG g.xs) (c := m) (lo := lo) (b := bb) (by omega) (by rw [hP]; exact hpo m hcn) hs (hm1 s (List.mem_of_getElem? hs))
            rw [ht] at hS1 ⊢
            simp only [sI, sL, sB, Option.isSome_some, List.length_singleton] at hS1 ⊢
            (repeat (first | (refine i_dst ?_; (first | (refine i_move ?_; refine l_q rfl rfl rfl (q_move rfl) ?_) | (refine i_assign ?_; refine l_q rfl rfl rfl (q_assign rfl) ?_) | (refine i_alloc ?_; (refine l_allocA tab rfl rfl (fun _ => ?_))) | refine l_q rfl rfl rfl (by (exact q_extract rfl rfl)) ?_)) | refine d_seq ?_ | refine l_nil ?_ | (refine i_q ?_; (refine d_then ?_)) | (refine i_store ?_; ((refine l_setN tab rfl rfl rfl rfl (List.cons_ne_nil _ _) rfl (by first | ((repeat (first | exact Upd.head | apply Upd.tail)); done) | fail) (by first | ((repeat (first | exact LSets.nil | exact LSet.zero | apply LSets.cons | apply LSet.succ)); done) | fail) ?_)))))
            rename_i b17
            (refine a_begin mixed [blk b17 [.int .i64 (m : Int), .bool lo, .slice As 1 cs] 35, blk b15 [.int .u8 4, .int .u8 (((if lo = true then m + 64 else m) : Nat) : Int), .slice Az bb.length cz] 32] 16 rfl (fun w h => h.subl (by first | ((repeat (first | exact SubL.nil | apply SubL.keep | apply SubL.skip)); done) | fail)) ?_)
            ((refine a_q 0 rfl rfl rfl rfl rfl (by decide +kernel) (q_move rfl) ?_; refine a_q 1 rfl rfl rfl rfl rfl (by decide +kernel) (by (exact q_not rfl)) ?_; refine a_q 2 rfl rfl rfl rfl rfl (by decide +kernel) (q_move rfl) ?_; ((refine a_gt 3 rfl rfl rfl rfl rfl rfl rfl (by decide +kernel) (by ((exact q_ldN tab rfl rfl rfl rfl (by first | ((repeat (first | exact List.Mem.head _ | apply List.Mem.tail)); done) | fail) (by first | ((repeat (first | exact TakeR.nil | apply TakeR.cons | apply CutR.zero | apply CutR.skip)); done) | fail)))) ?_)); (refine a_gt 4 rfl rfl rfl rfl rfl rfl rfl (by decide +kernel) (q_move rfl) ?_); ((refine a_gt 5 rfl rfl rfl rfl rfl rfl rfl (by decide +kernel) (by ((apply iq_cv; (exact q_conv tab rfl rfl rfl (by (exact wr_i64 (by omega))))))) ?_)); (refine a_gt 6 rfl rfl rfl rfl rfl rfl rfl (by decide +kernel) (q_move rfl) ?_); (refine a_gt 7 rfl rfl rfl rfl rfl rfl rfl (by decide +kernel) (by (exact q_rem rfl rfl (by omega) (Int.tmod_eq_emod_of_nonneg (by omega)))) ?_); (refine a_gt 8 rfl rfl rfl rfl rfl rfl rfl (by decide +kernel) (q_move rfl) ?_); ((refine a_gt 9 rfl rfl rfl rfl rfl rfl rfl (by decide +kernel) (by ((apply iq_fld; (exact q_fieldAddr tab rfl rfl rfl rfl rfl rfl rfl)))) ?_)); ((refine a_gt 10 rfl rfl rfl rfl rfl rfl rfl (by decide +kernel) (by ((exact q_ld1 tab rfl rfl rfl (by first | ((repeat (first | exact List.Mem.head _ | apply List.Mem.tail)); done) | fail) (by (rfl))))) ?_))))
            (refine a_eg 11 rfl (by decide +kernel) rfl rfl rfl (fun K hK => e_bldS tab rfl rfl rfl rfl (by first | exact CellsOf.agg | exact CellsOf.one rfl) (by first | ((repeat (first | exact RepR.zero | exact AppR.nil | apply RepR.succ | apply AppR.cons)); done) | fail) (by first | ((repeat (first | exact FillR.nil | exact LSets.nil | exact LSet.zero | exact CellsOf.agg | exact rfl | exact CellsOf.one rfl | apply FillR.cons | apply LSets.cons | apply LSet.succ)); done) | fail) (fun w => by kernel_rfl) (fun g11 => hK _ _ (fun w h => h.subl (by first | ((repeat (first | exact SubL.nil | apply SubL.keep | apply SubL.skip)); done) | fail)) ?_)); clear hK)
            rw [emod]
            ((((refine a_gt 12 rfl rfl rfl rfl rfl rfl rfl (by decide +kernel) (by ((apply iq_bld; ((exact q_bld tab rfl rfl rfl (by first | ((repeat (first | exact FillR.nil | exact LSets.nil | exact LSet.zero | exact CellsOf.agg | exact rfl | exact CellsOf.one rfl | apply FillR.cons | apply LSets.cons | apply LSet.succ)); done) | fail) (fun w => by kernel_rfl)))))) ?_))))
            refine a_eg 13 rfl (by decide +kernel) rfl rfl rfl (fun K hK => e_call0 rfl rfl Try.func17 rfl (by decide) (fun w' h => same19_spec (n := 1) (c := cs) (xs := [bb]) (m : Int) lo (parts_in (y := ⟨.slice As 1 cs, vs, [bb]⟩) rfl (Ro.empty (h.mem (X := partA ⟨.slice As 1 cs, vs, [bb]⟩) (by first | ((repeat (first | exact List.Mem.head _ | apply List.Mem.tail)); done) | fail)))) (b1_blk1 (h.mem (X := blk g11 [.slice Az bb.length cz] _) (by first | ((repeat (first | exact List.Mem.head _ | apply List.Mem.tail)); done) | fail)) (roOf0 h hrz) hz1 hz2) (by omega)) (fun v B hv => ?_))
            obtain ⟨rfl, rfl⟩ := hv
            refine hK _ _ (fun w h => h.subl (by first | ((repeat (first | exact SubL.nil | apply SubL.keep | apply SubL.skip)); done) | fail)) ?_
            clear hK
            (((refine a_gt 14 rfl rfl rfl rfl rfl rfl rfl (by decide +kernel) (by (exact q_not rfl)) ?_); refine a_q 15 rfl rfl rfl rfl rfl (by decide +kernel) (by (exact q_pick_f rfl rfl)) ?_))
            refine a_done (by decide +kernel) ?_
            (repeat (first | (refine i_dst ?_; (first | (refine i_move ?_; refine l_q rfl rfl rfl (q_move rfl) ?_) | (refine i_bin ?_; refine l_q rfl rfl rfl (by (exact q_add rfl rfl (by (exact wr_i64 (by omega))))) ?_))) | refine c_region ?_ | refine l_nil ?_ | (refine i_q ?_; (first | refine d_then ?_ | refine t_then ?_ | refine t_block ?_)) | refine c_skip ?_ | (refine i_cond ?_; (refine c_cf rfl (by (rfl)) ?_))))
            have hm1' : ∀ s ∈ absG g1.xs, s.many = 1 := fun s' hs' => by
              rw [hS1] at hs'
              rcases List.mem_or_eq_of_mem_set hs' with h | h
              · exact hm1 s' h
              · subst h; rfl
            have hm2' : (absG g1.xs).length = i := by rw [hS1, List.length_set]; exact hm2
            exact k_again (j + 1, g1) ⟨by dsimp only; omega, hP1.trans hP, hG1, hPl1, hm1', hm2'⟩ (by dsimp only; omega) (by first | ((repeat (first | exact trivial | exact rfl | apply Sub.cons | exact look_int rfl (by omega) | exact look_int rfl (by simp) | exact look_int rfl (by simp; omega))); done) | fail) (fun w h => h.psub (by first | ((repeat (first | exact PSub.nil | exact Ext.head | apply Ext.tail | apply PSub.cons)); done) | fail))
    · have hin : j = min nl 40 := by omega
      (repeat (first | (refine i_dst ?_; (first | (refine i_move ?_; refine l_q rfl rfl rfl (q_move rfl) ?_) | (refine i_assign ?_; refine l_q rfl rfl rfl (q_assign rfl) ?_) | (refine i_bin ?_; refine l_q rfl rfl rfl (by (exact q_lss rfl rfl)) ?_))) | refine d_seq ?_ | refine c_region ?_ | refine l_nil ?_ | (refine i_q ?_; (first | refine d_then ?_ | refine d_then_exit ?_ | refine t_then_exit ?_ | refine t_block_eq rfl ?_)) | refine c_exit ?_ | refine c_ret ?_ | (refine i_cond ?_; (refine c_cf rfl (by (exact decide_eq_false (by omega))) ?_))))
      exact t_hp (hp' := []) (fun w h => h.psub (by first | ((repeat (first | exact PSub.nil | exact Ext.head | apply Ext.tail | apply PSub.cons)); done) | fail)) (t_ret1 Try.results9 rfl rfl)
end Go.Proofs.Ytidekbijkknlmaa

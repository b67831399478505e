/-
  Part 21 of the proof of QJ: the texts FI FK FJ.
-/
import Derived.Test.YtboccjdncdaakaaK19
import Derived.Test.YtboccjdncdaakaaK20

/-
  Layer 11: way, Runs, Do, walked.
-/

set_option linter.unusedVariables false
set_option maxRecDepth 100000
namespace Go.Proofs.Ytboccjdncdaakaa
open Go.RowKit
attribute [local irreducible] TL TC TQ TK TO Qt TA
def wayF (code : Nat) : FuncId × Bool :=
  if code = 18 then (43, true) else if code = 19 then (44, true) else if code = 20 then (45, true) else if code = 21 then (46, true)
  else if code = 22 then (47, false) else if code = 23 then (48, false) else if code = 24 then (49, false) else if code = 25 then (50, false) else (51, false)
theorem wayF_fn (code : Nat) : ∃ fn, Try.prog.funcs[(wayF code).1]? = some fn ∧ fn.body.isSome = true ∧ (fn.name == "runtime.NumGoroutine") = false := by
  unfold wayF
  split
  · exact ⟨_, Try.func43, rfl, by decide⟩
  split
  · exact ⟨_, Try.func44, rfl, by decide⟩
  split
  · exact ⟨_, Try.func45, rfl, by decide⟩
  split
  · exact ⟨_, Try.func46, rfl, by decide⟩
  split
  · exact ⟨_, Try.func47, rfl, by decide⟩
  split
  · exact ⟨_, Try.func48, rfl, by decide⟩
  split
  · exact ⟨_, Try.func49, rfl, by decide⟩
  split
  · exact ⟨_, Try.func50, rfl, by decide⟩
  · exact ⟨_, Try.func51, rfl, by decide⟩
theorem st_left {S : Nat → Prop} {w0 w : World} {A F : List Asn} (h : St S w0 (A ++ F) w) : St S w0 A w := ⟨h.kept, fun X hX => h.own X (by simp [hX]), h.ap.append.1, fun X hX => h.all X (by simp [hX])⟩
attribute [local irreducible] blk row bytesA starL memA segA roB otA entA tblA
set_option maxHeartbeats 8000000 in
theorem dway_spec (code : Nat) (h1 : 18 ≤ code) (h2 : code ≤ 26) (w : World) : Calls Try.prog 33 #[.int .u8 code] w (Ret w [] fun v B => v = .tuple #[.func (.func (wayF code).1) #[] #[], .bool (wayF code).2] ∧ B = []) := by
  refine enter (vs := [.int .u8 code]) Try.func33 rfl Try.ntmps33 rfl (Hold.nil w) ?_
  rcases (by omega : code = 18 ∨ code = 19 ∨ code = 20 ∨ code = 21 ∨ code = 22 ∨ code = 23 ∨ code = 24 ∨ code = 25 ∨ code = 26) with rfl | rfl | rfl | rfl | rfl | rfl | rfl | rfl | rfl
  all_goals
    (repeat (first | (refine i_dst ?_; (first | (refine i_move ?_; refine l_q rfl rfl rfl (q_move rfl) ?_) | (refine i_assign ?_; refine l_q rfl rfl rfl (q_assign rfl) ?_) | (refine i_bin ?_; refine l_q rfl rfl rfl (by (exact q_eql rfl rfl)) ?_))) | refine d_seq ?_ | refine c_region ?_ | refine l_nil ?_ | refine c_block ?_ | (refine i_q ?_; (first | refine d_then ?_ | refine d_then_ret ?_ | refine t_block_ret ?_)) | refine c_ret ?_ | (refine i_cond ?_; (first | refine c_ct rfl (by (rfl)) ?_ | refine c_cf rfl (by (rfl)) ?_))))
    exact t_ret2 Try.results33 rfl rfl ⟨rfl, rfl⟩

set_option maxHeartbeats 4000000 in
theorem druns_spec {p : Nat} {A : Option Addr} {n c : Nat} {v0 v1 v3 : Value} {ls : List ListI} {w : World} (hb : Ro (fps []) w (blk p [v0, v1, .slice A n c, v3] 98)) (hls : InS (fps []) w 8 (InList (fps []) w) A n ls) (hn : n ≤ 1000) (hoff : ∀ l ∈ ls, l.on = false) :
    Calls Try.prog 34 #[.pointer (some ⟨p, 0, none⟩)] w (Ret w [] fun v B => v = .bool false ∧ B = []) := by
  refine enter (vs := [.pointer (some ⟨p, 0, none⟩)]) Try.func34 rfl Try.ntmps34 rfl (Hold.nil w) ?_
  (repeat (first | (refine i_dst ?_; (first | (refine i_move ?_; refine l_q rfl rfl rfl (q_move rfl) ?_) | (refine i_assign ?_; refine l_q rfl rfl rfl (q_assign rfl) ?_) | (refine i_load ?_; refine l_q rfl rfl rfl (by (exact q_ldRo tab rfl rfl rfl (by assumption) rfl)) ?_) | (refine i_bin ?_; refine l_q rfl rfl rfl (by (exact q_nenil tab rfl rfl rfl)) ?_) | (refine l_q rfl rfl rfl (by (first | (apply iq_fld; (exact q_fieldAddr tab rfl rfl rfl rfl rfl rfl rfl)) | (apply iq_nck; (exact q_nilck rfl)))) ?_))) | refine d_seq ?_ | refine c_region ?_ | refine l_nil ?_ | (refine i_q ?_; (refine d_then ?_)) | (refine i_guard ?_; (refine l_gt rfl rfl rfl ?_))))
  (refine l_call0 rfl rfl Try.func52 rfl (by decide) (fun w' h => dlcont_spec (hls.to (fun r hr => roOf0 h hr) (fun _ _ hx => hx.to (fun r hr => roOf0 h hr))) hn hoff) (fun v B hv => ?_); obtain ⟨rfl, rfl⟩ := hv)
  (repeat (first | (refine i_dst ?_; (first | (refine i_assign ?_; refine l_q rfl rfl rfl (q_assign rfl) ?_) | refine l_q rfl rfl rfl (by (exact q_pick_t rfl rfl)) ?_)) | refine l_nil ?_ | (refine i_q ?_; (refine d_then ?_)) | refine c_ret ?_))
  exact t_ret1 Try.results34 rfl ⟨rfl, rfl⟩
/-- Commands that lay lists. -/
structure LayC (c : CmdV) : Prop where
  ok : c.Ok
  code : 18 ≤ c.code ∧ c.code ≤ 26
  start : c.code = 25 → c.a1 = 2
  all : c.code = 26 → c.a0 = 1
theorem ddoes_spec {p : Nat} {d : DqV} {w : World} (hA : Hold (dqL p d) w) (hok : DqOk d) (hoff : Off d) (c : CmdV) (hc : LayC c) :
    Calls Try.prog (wayF c.code).1 #[.pointer (some ⟨p, 0, none⟩), .agg (cmdC c).toArray] w (Ret w (dqL p d) (DoOut p c d)) := by
  obtain ⟨hcok, hcd, hs, ha⟩ := hc
  rcases (by omega : c.code = 18 ∨ c.code = 19 ∨ c.code = 20 ∨ c.code = 21 ∨ c.code = 22 ∨ c.code = 23 ∨ c.code = 24 ∨ c.code = 25 ∨ c.code = 26) with h | h | h | h | h | h | h | h | h
  · have e : (wayF c.code).1 = 43 := by rw [h]; rfl
    rw [e]
    exact dfree_spec hA c h
  · have e : (wayF c.code).1 = 44 := by rw [h]; rfl
    rw [e]
    exact dalloc_spec hA hok c h hcok
  · have e : (wayF c.code).1 = 45 := by rw [h]; rfl
    rw [e]
    exact dodts_spec hA hok hoff c h hcok
  · have e : (wayF c.code).1 = 46 := by rw [h]; rfl
    rw [e]
    exact dentries_spec hA hok hoff c h hcok
  · have e : (wayF c.code).1 = 47 := by rw [h]; rfl
    rw [e]
    exact dpoint_spec hA hok hoff c h hcok
  · have e : (wayF c.code).1 = 48 := by rw [h]; rfl
    rw [e]
    exact dwrite_spec hA hok hoff c h hcok
  · have e : (wayF c.code).1 = 49 := by rw [h]; rfl
    rw [e]
    exact dmode_spec hA hok hoff c h hcok
  · have e : (wayF c.code).1 = 50 := by rw [h]; rfl
    rw [e]
    exact dstart_spec hA hok hoff c h (hs h) hcok
  · have e : (wayF c.code).1 = 51 := by rw [h]; rfl
    rw [e]
    exact dall_spec hA hok hoff c h (ha h) hcok

set_option maxHeartbeats 8000000 in
theorem ddo_spec {p : Nat} {d : DqV} {w : World} (hA : Hold (dqL p d) w) (hok : DqOk d) (hoff : Off d) (c : CmdV) (hc : LayC c) :
    Calls Try.prog 15 #[.pointer (some ⟨p, 0, none⟩), .agg (cmdC c).toArray] w (Ret w (dqL p d) (DoOut p c d)) := by
  have hcok := hc.ok
  have hw := hcok.w
  obtain ⟨hcd1, hcd2⟩ := hc.code
  have hlen := hok.len
  refine enter (vs := [.pointer (some ⟨p, 0, none⟩), .agg (cmdC c).toArray]) Try.func15 rfl Try.ntmps15 rfl hA ?_
  refine c_hp (hp' := [blk p [.int .i64 4, .int .i64 d.step, .slice d.A d.xs.length d.c, ptV d.pv] 98, row 27 8 (.slice d.A d.xs.length d.c) d.xs.length (d.xs.flatMap lstCells), starL (d.xs.map tblA), ptA d.pv]) (fun w h => h) ?_
  simp only [cmdC]
  (repeat (first | (refine i_dst ?_; (first | (refine i_move ?_; refine l_q rfl rfl rfl (q_move rfl) ?_) | (refine i_assign ?_; refine l_q rfl rfl rfl (q_assign rfl) ?_) | (refine i_load ?_; refine l_q rfl rfl rfl (by ((exact q_ldN tab rfl rfl rfl rfl (by first | ((repeat (first | exact List.Mem.head _ | apply List.Mem.tail)); done) | fail) (by first | ((repeat (first | exact TakeR.nil | apply TakeR.cons | apply CutR.zero | apply CutR.skip)); done) | fail)))) ?_) | (refine i_bin ?_; refine l_q rfl rfl rfl (by (exact q_eqnil tab rfl rfl rfl)) ?_) | (refine i_box ?_; (refine l_boxA rfl rfl (fun _ => ?_))))) | refine d_seq ?_ | refine c_region ?_ | refine l_nil ?_ | (refine i_q ?_; (refine d_then ?_)) | refine c_skip ?_ | (refine i_cond ?_; (refine c_cf rfl (by (rfl)) ?_))))
  rename_i b3
  (refine l_call0 rfl rfl Try.func32 rfl (by decide) (fun w' h => cput_spec c.code c.a0 c.a1 c.a2 c.a3 c.a4 c.w hcok.code ⟨hcok.a0, hcok.a1, hcok.a2, hcok.a3, hcok.a4⟩ (by omega) none 0 0 [] w' (roB_nil w') (by omega)) (fun v B hv => ?_); obtain ⟨rfl, rfl⟩ | ⟨s, g, m, Av, cv, hfit, rfl, rfl⟩ := hv)
  · (repeat (first | (refine i_dst ?_; (first | (refine i_move ?_; refine l_q rfl rfl rfl (q_move rfl) ?_) | (refine i_assign ?_; refine l_q rfl rfl rfl (q_assign rfl) ?_) | (refine i_bin ?_; refine l_q rfl rfl rfl (by (exact q_neq rfl rfl)) ?_) | refine l_q rfl rfl rfl (by (exact q_extract rfl rfl)) ?_)) | refine d_seq ?_ | refine c_region ?_ | refine l_nil ?_ | (refine i_q ?_; (first | refine d_then ?_ | refine d_then_ret ?_)) | refine c_ret ?_ | (refine i_cond ?_; (refine c_ct rfl (by (rfl)) ?_))))
    exact t_hp (hp' := []) (fun w h => h.psub (by first | ((repeat (first | exact PSub.nil | exact Ext.head | apply Ext.tail | apply PSub.cons)); done) | fail)) (t_ret2 Try.results15 rfl rfl (.inl ⟨_, _, rfl, by omega⟩))
  · generalize encC c.code c.a0 c.a1 c.a2 c.a3 c.a4 c.w [] s g = E
    (repeat (first | (refine i_dst ?_; (first | (refine i_move ?_; refine l_q rfl rfl rfl (q_move rfl) ?_) | (refine i_assign ?_; refine l_q rfl rfl rfl (q_assign rfl) ?_) | (refine i_load ?_; refine l_q rfl rfl rfl (by ((exact q_ld1 tab rfl rfl rfl (by first | ((repeat (first | exact List.Mem.head _ | apply List.Mem.tail)); done) | fail) (by (rfl))))) ?_) | (refine i_bin ?_; refine l_q rfl rfl rfl (by (exact q_neq rfl rfl)) ?_) | (refine l_q rfl rfl rfl (by (first | exact q_extract rfl rfl | (apply iq_fld; (exact q_fieldAddr tab rfl rfl rfl rfl rfl rfl rfl)))) ?_))) | refine d_seq ?_ | refine c_region ?_ | refine l_nil ?_ | (refine i_q ?_; (refine d_then ?_)) | refine c_skip ?_ | (refine i_cond ?_; (refine c_cf rfl (by (rfl)) ?_))))
    (refine l_call0 rfl rfl Try.func33 rfl (by decide) (fun w' h => dway_spec c.code hcd1 hcd2 w') (fun v B hv => ?_); obtain ⟨rfl, rfl⟩ := hv)
    (repeat (first | (refine i_dst ?_; (first | (refine i_move ?_; refine l_q rfl rfl rfl (q_move rfl) ?_) | (refine i_assign ?_; refine l_q rfl rfl rfl (q_assign rfl) ?_) | refine l_q rfl rfl rfl (by (exact q_extract rfl rfl)) ?_)) | refine d_seq ?_ | refine c_region ?_ | refine l_nil ?_ | refine c_block ?_ | (refine i_q ?_; (refine d_then ?_))))
    refine i_dst (l_q rfl rfl rfl (q_eqfn tab rfl rfl rfl) ?_)
    have hoffL : ∀ l ∈ d.xs.map (·.l), l.on = false := fun l hl => by
      obtain ⟨x, hx, rfl⟩ := List.mem_map.1 hl
      exact hoff x hx
    obtain ⟨fn, hf1, hf2, hf3⟩ := wayF_fn c.code
    cases hstill : (wayF c.code).2 with
    | true =>
      (repeat (first | (refine i_dst ?_; (first | (refine i_move ?_; refine l_q rfl rfl rfl (q_move rfl) ?_) | (refine i_assign ?_; refine l_q rfl rfl rfl (q_assign rfl) ?_))) | refine d_seq ?_ | refine c_region ?_ | refine l_nil ?_ | (refine i_q ?_; (refine d_then ?_)) | (refine i_guard ?_; (refine l_gt rfl rfl rfl ?_)) | (refine i_cond ?_; (refine c_cf rfl (by (rfl)) ?_))))
      (refine l_call0 rfl rfl Try.func34 rfl (by decide) (fun w' h => druns_spec (Ro.empty (h.mem (X := blk p [.int .i64 4, .int .i64 d.step, .slice d.A d.xs.length d.c, ptV d.pv] 98) (by first | ((repeat (first | exact List.Mem.head _ | apply List.Mem.tail)); done) | fail))) (dq_in rfl (Ro.empty (h.mem (X := row 27 8 (.slice d.A d.xs.length d.c) d.xs.length (d.xs.flatMap lstCells)) (by first | ((repeat (first | exact List.Mem.head _ | apply List.Mem.tail)); done) | fail))) (Ro.empty (h.mem (X := starL (d.xs.map tblA)) (by first | ((repeat (first | exact List.Mem.head _ | apply List.Mem.tail)); done) | fail))) hok.lists) (by omega) hoffL) (fun v B hv => ?_); obtain ⟨rfl, rfl⟩ := hv)
      (repeat (first | (refine i_dst ?_; (first | (refine i_move ?_; refine l_q rfl rfl rfl (q_move rfl) ?_) | (refine i_assign ?_; refine l_q rfl rfl rfl (q_assign rfl) ?_) | (refine i_load ?_; refine l_q rfl rfl rfl (by ((exact q_ldN tab rfl rfl rfl rfl (by first | ((repeat (first | exact List.Mem.head _ | apply List.Mem.tail)); done) | fail) (by first | ((repeat (first | exact TakeR.nil | apply TakeR.cons | apply CutR.zero | apply CutR.skip)); done) | fail)))) ?_) | refine l_q rfl rfl rfl (by (exact q_pick_t rfl rfl)) ?_)) | refine d_seq ?_ | refine c_region ?_ | refine l_nil ?_ | (refine i_q ?_; (first | refine d_then ?_ | refine t_block ?_)) | refine c_skip ?_ | (refine i_cond ?_; (refine c_cf rfl (by (rfl)) ?_))))
      refine l_op rfl (fun K hK => e_callv (A := dqL p d) (F := []) rfl rfl rfl hf1 hf2 hf3 (fun w h => h.psub (hp' := [blk p [.int .i64 4, .int .i64 d.step, .slice d.A d.xs.length d.c, ptV d.pv] 98, row 27 8 (.slice d.A d.xs.length d.c) d.xs.length (d.xs.flatMap lstCells), starL (d.xs.map tblA), ptA d.pv]) (by first | ((repeat (first | exact PSub.nil | exact Ext.head | apply Ext.tail | apply PSub.cons)); done) | fail)) (fun w' h => ddoes_spec h.split hok hoff c hc) (fun v B hv => hK _ _ ?_))
      clear hK
      rcases hv with ⟨u, e, rfl, he⟩ | ⟨u, d', rfl, rfl, h1, h2, h3⟩
      · (repeat (first | (refine i_dst ?_; (first | (refine i_assign ?_; refine l_q rfl rfl rfl (q_assign rfl) ?_) | refine l_q rfl rfl rfl (by (exact q_extract rfl rfl)) ?_)) | refine l_nil ?_ | (refine i_q ?_; (refine d_then ?_)) | refine c_ret ?_))
        exact t_hp (hp' := []) (fun w h => h.subl SubL.nil) (t_ret2 Try.results15 rfl rfl (.inl ⟨_, _, rfl, he⟩))
      · (repeat (first | (refine i_dst ?_; (first | (refine i_assign ?_; refine l_q rfl rfl rfl (q_assign rfl) ?_) | refine l_q rfl rfl rfl (by (exact q_extract rfl rfl)) ?_)) | refine l_nil ?_ | (refine i_q ?_; (refine d_then ?_)) | refine c_ret ?_))
        exact t_hp (hp' := dqL p d') (fun w h => st_left h) (t_ret2 Try.results15 rfl rfl (.inr ⟨_, d', rfl, rfl, h1, h2, h3⟩))
    | false =>
      (repeat (first | (refine i_dst ?_; (first | (refine i_move ?_; refine l_q rfl rfl rfl (q_move rfl) ?_) | (refine i_assign ?_; refine l_q rfl rfl rfl (q_assign rfl) ?_) | (refine i_load ?_; refine l_q rfl rfl rfl (by ((exact q_ldN tab rfl rfl rfl rfl (by first | ((repeat (first | exact List.Mem.head _ | apply List.Mem.tail)); done) | fail) (by first | ((repeat (first | exact TakeR.nil | apply TakeR.cons | apply CutR.zero | apply CutR.skip)); done) | fail)))) ?_) | refine l_q rfl rfl rfl (by (exact q_pick_f rfl rfl)) ?_)) | refine d_seq ?_ | refine c_region ?_ | refine l_nil ?_ | (refine i_q ?_; (first | refine d_then ?_ | refine t_block ?_)) | refine c_skip ?_ | (refine i_guard ?_; (refine l_gf rfl rfl rfl rfl rfl rfl ?_)) | (refine i_cond ?_; (refine c_cf rfl (by (rfl)) ?_))))
      refine l_op rfl (fun K hK => e_callv (A := dqL p d) (F := []) rfl rfl rfl hf1 hf2 hf3 (fun w h => h.psub (hp' := [blk p [.int .i64 4, .int .i64 d.step, .slice d.A d.xs.length d.c, ptV d.pv] 98, row 27 8 (.slice d.A d.xs.length d.c) d.xs.length (d.xs.flatMap lstCells), starL (d.xs.map tblA), ptA d.pv]) (by first | ((repeat (first | exact PSub.nil | exact Ext.head | apply Ext.tail | apply PSub.cons)); done) | fail)) (fun w' h => ddoes_spec h.split hok hoff c hc) (fun v B hv => hK _ _ ?_))
      clear hK
      rcases hv with ⟨u, e, rfl, he⟩ | ⟨u, d', rfl, rfl, h1, h2, h3⟩
      · (repeat (first | (refine i_dst ?_; (first | (refine i_assign ?_; refine l_q rfl rfl rfl (q_assign rfl) ?_) | refine l_q rfl rfl rfl (by (exact q_extract rfl rfl)) ?_)) | refine l_nil ?_ | (refine i_q ?_; (refine d_then ?_)) | refine c_ret ?_))
        exact t_hp (hp' := []) (fun w h => h.subl SubL.nil) (t_ret2 Try.results15 rfl rfl (.inl ⟨_, _, rfl, he⟩))
      · (repeat (first | (refine i_dst ?_; (first | (refine i_assign ?_; refine l_q rfl rfl rfl (q_assign rfl) ?_) | refine l_q rfl rfl rfl (by (exact q_extract rfl rfl)) ?_)) | refine l_nil ?_ | (refine i_q ?_; (refine d_then ?_)) | refine c_ret ?_))
        exact t_hp (hp' := dqL p d') (fun w h => st_left h) (t_ret2 Try.results15 rfl rfl (.inr ⟨_, d', rfl, rfl, h1, h2, h3⟩))
end Go.Proofs.Ytboccjdncdaakaa

/-
  TopStims' plain law, its first half: what lists are that commands have laid.
-/

set_option linter.unusedVariables false
set_option maxRecDepth 100000
namespace Go.Proofs.Ytboccjdncdaakaa
open Go.RowKit
attribute [local irreducible] TL TC TQ TK TO Qt TA
/-- Commands that are all done, one behind the other. -/
def RunL : List CmdV → List ListI → List ListI → Prop
  | [], L, L' => L' = L
  | c :: cs, L, L' => ∃ M, StepL c L M ∧ RunL cs M L'
theorem RunL.append : ∀ {a b : List CmdV} {L L' : List ListI}, RunL (a ++ b) L L' → ∃ M, RunL a L M ∧ RunL b M L'
  | [], b, L, L', h => ⟨L, rfl, h⟩
  | c :: a, b, L, L', h => by
    obtain ⟨M, h1, h2⟩ := h
    obtain ⟨M', h3, h4⟩ := RunL.append h2
    exact ⟨M', ⟨M, h1, h3⟩, h4⟩
theorem RunL.snoc : ∀ {a : List CmdV} {c : CmdV} {L M L' : List ListI}, RunL a L M → StepL c M L' → RunL (a ++ [c]) L L'
  | [], c, L, M, L', h1, h2 => by
    have h1 : M = L := h1
    subst h1
    exact ⟨L', h2, rfl⟩
  | x :: a, c, L, M, L', h1, h2 => by
    obtain ⟨N, h3, h4⟩ := h1
    exact ⟨N, h3, RunL.snoc h4 h2⟩
theorem run_X : ∀ {X : List CmdV} {L L' : List ListI}, (∀ c ∈ X, 20 ≤ c.code ∧ c.code ≤ 23) → RunL X L L' → L'.length = L.length
  | [], L, L', _, h => by rw [show L' = L from h]
  | c :: X, L, L', hX, h => by
    obtain ⟨M, h1, h2⟩ := h
    obtain ⟨h3, h4⟩ := hX c (by simp)
    rw [run_X (fun c hc => hX c (by simp [hc])) h2, h1.lay h3 h4]
theorem run_Y : ∀ {Y : List CmdV} {k : Nat} {L L' : List ListI}, (∀ (i : Nat) c, Y[i]? = some c → c.code = 24 ∧ c.a0 = k + i ∧ c.a1 = 1) → (∀ i l, i < k → L[i]? = some l → l.stim = true) → RunL Y L L' → L'.length = L.length ∧ ∀ i l, i < k + Y.length → L'[i]? = some l → l.stim = true
  | [], k, L, L', _, hs, h => by
    have h : L' = L := h
    subst h
    exact ⟨rfl, fun i l hi hl => hs i l (by simpa using hi) hl⟩
  | c :: Y, k, L, L', hY, hs, h => by
    obtain ⟨M, h1, h2⟩ := h
    obtain ⟨q1, q2, q3⟩ := hY 0 c rfl
    obtain ⟨l, h3, h4⟩ := h1.mode q1
    have hk := (List.getElem?_eq_some_iff.1 h3).1
    obtain ⟨r1, r2⟩ := run_Y (k := k + 1) (L := M) (fun i c hc => by
      obtain ⟨a1, a2, a3⟩ := hY (i + 1) c (by simpa using hc)
      exact ⟨a1, by omega, a3⟩) (fun i l' hi hl' => by
      rw [h4] at hl'
      by_cases e : c.a0 = i
      · rw [e, List.getElem?_set_self (by omega)] at hl'
        injection hl' with hl'
        subst hl'
        simp [q3]
      · rw [List.getElem?_set_ne e] at hl'
        exact hs i l' (by omega) hl') h2
    refine ⟨by rw [r1, h4, List.length_set], fun i l hi hl => r2 i l (by simp at hi; omega) hl⟩
theorem run_Z : ∀ {Z : List CmdV} {k : Nat} {L L' : List ListI}, (∀ (i : Nat) c, Z[i]? = some c → c.code = 25 ∧ c.a0 = k + i ∧ c.a1 = 2) → (∀ (i : Nat) l, L[i]? = some l → l.stim = true) → (∀ i l, i < k → L[i]? = some l → l.ch = true ∧ 0 < l.tabs.length) → RunL Z L L' → L'.length = L.length ∧ (∀ (i : Nat) l, L'[i]? = some l → l.stim = true) ∧ ∀ i l, i < k + Z.length → L'[i]? = some l → l.ch = true ∧ 0 < l.tabs.length
  | [], k, L, L', _, hs, hc, h => by
    have h : L' = L := h
    subst h
    exact ⟨rfl, hs, fun i l hi hl => hc i l (by simpa using hi) hl⟩
  | c :: Z, k, L, L', hZ, hs, hc, h => by
    obtain ⟨M, h1, h2⟩ := h
    obtain ⟨q1, q2, q3⟩ := hZ 0 c rfl
    obtain ⟨l, h3, h5, h4⟩ := h1.start q1
    have hk := (List.getElem?_eq_some_iff.1 h3).1
    obtain ⟨r1, r2, r3⟩ := run_Z (k := k + 1) (L := M) (fun i c hc => by
      obtain ⟨a1, a2, a3⟩ := hZ (i + 1) c (by simpa using hc)
      exact ⟨a1, by omega, a3⟩) (fun i l' hl' => by
      rw [h4] at hl'
      by_cases e : c.a0 = i
      · rw [e, List.getElem?_set_self (by omega)] at hl'
        injection hl' with hl'
        subst hl'
        exact hs c.a0 l h3
      · rw [List.getElem?_set_ne e] at hl'
        exact hs i l' hl') (fun i l' hi hl' => by
      rw [h4] at hl'
      by_cases e : c.a0 = i
      · rw [e, List.getElem?_set_self (by omega)] at hl'
        injection hl' with hl'
        subst hl'
        exact ⟨rfl, h5⟩
      · rw [List.getElem?_set_ne e] at hl'
        exact hc i l' (by omega) hl') h2
    refine ⟨by rw [r1, h4, List.length_set], r2, fun i l hi hl => r3 i l (by simp at hi; omega) hl⟩
/-- What Lists gives of lists that were all set, and chosen. -/
structure LaidOk (ls : List ListI) : Prop where
  len : ls.length ≤ 4
  tot : totT ls ≤ 16
  all : ∀ l ∈ ls, l.on = true ∧ l.stim = true ∧ 0 < l.tabs.length ∧ LOk l
  first : ∀ (i : Nat) l, ls[i]? = some l → l.first = (totT (ls.take i) : Nat)
theorem laid_nil : LaidOk [] := ⟨by decide, by decide, (fun l h => by cases h), (fun i l h => by simp at h)⟩
theorem run_all {n : Nat} {cs : List CmdV} (h : LayOk n cs) {L0 L : List ListI} (hr : RunL cs L0 L) : L.length = n ∧ ∀ l ∈ L, l.on = true ∧ l.stim = true ∧ 0 < l.tabs.length := by
  obtain ⟨c0, c1, X, Y, Z, cz, rfl, h0, ⟨h1, h1n⟩, hX, hYl, hY, hZl, hZ, hz, hz1⟩ := h.ex
  obtain ⟨M4, hr, r5⟩ := hr.append
  obtain ⟨M3, hr, r4⟩ := hr.append
  obtain ⟨M2, hr, r3⟩ := hr.append
  obtain ⟨M1, ⟨M0, -, ⟨M, hM, hM1⟩⟩, r2⟩ := hr.append
  have hM1 : M1 = M := hM1
  subst hM1
  have e1 := hM.alloc h1
  have e2 := run_X hX r2
  obtain ⟨e3, e4⟩ := run_Y (k := 0) (fun i c hc => by obtain ⟨a, b, d⟩ := hY i c hc; exact ⟨a, by omega, d⟩) (fun i l hi => by omega) r3
  have el2 : M2.length = n := by rw [e2, e1, List.length_replicate, h1n]
  obtain ⟨e5, e6, e7⟩ := run_Z (k := 0) (fun i c hc => by obtain ⟨a, b, d⟩ := hZ i c hc; exact ⟨a, by omega, d⟩) (fun i l hl => e4 i l (by have := (List.getElem?_eq_some_iff.1 hl).1; omega) hl) (fun i l hi => by omega) r4
  obtain ⟨M5, r6, hM5⟩ := r5
  have hM5 : L = M5 := hM5
  subst hM5
  have e8 := r6.all hz
  refine ⟨by rw [e8, List.length_map]; omega, fun l hl => ?_⟩
  rw [e8] at hl
  obtain ⟨l0, hl0, rfl⟩ := List.mem_map.1 hl
  obtain ⟨i, hi⟩ := List.mem_iff_getElem?.1 hl0
  have hil := (List.getElem?_eq_some_iff.1 hi).1
  obtain ⟨q1, q2⟩ := e7 i l0 (by omega) hi
  exact ⟨q1, e6 i l0 hi, q2⟩
theorem firstsL_get : ∀ {s : Nat} {ls : List ListI} {i : Nat} {l : ListI}, (firstsL s ls)[i]? = some l → ∃ l0, ls[i]? = some l0 ∧ l = setF (s + totT (ls.take i)) l0
  | s, [], i, l, h => by simp [firstsL] at h
  | s, x :: r, 0, l, h => by
    simp [firstsL] at h
    exact ⟨x, rfl, by rw [← h]; simp [totT]⟩
  | s, x :: r, i + 1, l, h => by
    obtain ⟨l0, h1, h2⟩ := firstsL_get (s := s + x.tabs.length) (ls := r) (i := i) (by simpa [firstsL] using h)
    refine ⟨l0, by simpa using h1, ?_⟩
    rw [h2]
    simp [totT, Nat.add_assoc]
theorem totT_firsts : ∀ (s : Nat) (ls : List ListI), totT (firstsL s ls) = totT ls
  | _, [] => rfl
  | s, l :: r => by
    have := totT_firsts (s + l.tabs.length) r
    simp only [totT, firstsL, List.map_cons, List.sum_cons, setF] at this ⊢
    omega
theorem firstsL_take : ∀ (s : Nat) (ls : List ListI) (i : Nat), (firstsL s ls).take i = firstsL s (ls.take i)
  | _, [], i => by simp [firstsL]
  | _, _ :: _, 0 => by simp [firstsL]
  | s, l :: r, i + 1 => by simp [firstsL, firstsL_take]
theorem totT_take_le (ls : List ListI) (i : Nat) : totT (ls.take i) ≤ totT ls := by
  have h : totT ls = totT (ls.take i) + totT (ls.drop i) := by
    unfold totT
    rw [← List.sum_append, ← List.map_append, List.take_append_drop]
  omega
theorem laid_ok {n : Nat} {cs : List CmdV} (h : LayOk n cs) {d : DqV} {L0 : List ListI} (hr : RunL cs L0 (lsOf d)) (hok : DqOk d) : LaidOk (firstsL 0 (lsOf d)) := by
  obtain ⟨h1, h2⟩ := run_all h hr
  have hlen := hok.len
  refine ⟨by rw [firstsL_len, lsOf, List.length_map]; exact hlen, by rw [totT_firsts]; exact hok.tot, fun l hl => ?_, fun i l hl => ?_⟩
  · obtain ⟨i, hi⟩ := List.mem_iff_getElem?.1 hl
    obtain ⟨l0, h3, rfl⟩ := firstsL_get hi
    have hm := List.mem_of_getElem? h3
    obtain ⟨q1, q2, q3⟩ := h2 l0 hm
    obtain ⟨x, hx, rfl⟩ := List.mem_map.1 hm
    have hxo := hok.lists x hx
    have ht := totT_take_le (lsOf d) i
    have := hok.tot
    exact ⟨q1, q2, q3, ⟨by show 0 ≤ ((_ : Nat) : Int) ∧ ((_ : Nat) : Int) ≤ 64; omega, hxo.ev, hxo.pre, hxo.pri, hxo.tabs, hxo.tab⟩⟩
  · obtain ⟨l0, h3, rfl⟩ := firstsL_get hl
    rw [firstsL_take, totT_firsts, setF, Nat.zero_add]
/-- Of a command of Lay: it may be done, and only the last one lets lists run. -/
theorem lay_c {n : Nat} {cs : List CmdV} (h : LayOk n cs) {k : Nat} {c : CmdV} (hc : cs[k]? = some c) : LayC c ∧ (k + 1 < cs.length → c.code ≠ 26) := by
  have hok := h.ok c (List.mem_of_getElem? hc)
  obtain ⟨c0, c1, X, Y, Z, cz, rfl, h0, ⟨h1, h1n⟩, hX, hYl, hY, hZl, hZ, hz, hz1⟩ := h.ex
  by_cases hk : k < ([c0, c1] ++ X ++ Y ++ Z).length
  · rw [List.getElem?_append_left hk] at hc
    have hm := List.mem_of_getElem? hc
    simp only [List.mem_append, List.mem_cons, List.not_mem_nil, or_false] at hm
    rcases hm with ((((rfl | rfl) | hm) | hm) | hm)
    · exact ⟨⟨hok, by omega, by omega, by omega⟩, fun _ => by omega⟩
    · exact ⟨⟨hok, by omega, by omega, by omega⟩, fun _ => by omega⟩
    · obtain ⟨a, b⟩ := hX c hm
      exact ⟨⟨hok, by omega, by omega, by omega⟩, fun _ => by omega⟩
    · obtain ⟨i, hi⟩ := List.mem_iff_getElem?.1 hm
      obtain ⟨a, b, e⟩ := hY i c hi
      exact ⟨⟨hok, by omega, by omega, by omega⟩, fun _ => by omega⟩
    · obtain ⟨i, hi⟩ := List.mem_iff_getElem?.1 hm
      obtain ⟨a, b, e⟩ := hZ i c hi
      exact ⟨⟨hok, by omega, by omega, by omega⟩, fun _ => by omega⟩
  · rw [List.getElem?_append_right (by omega)] at hc
    have hl := (List.getElem?_eq_some_iff.1 hc).1
    rw [List.length_singleton] at hl
    have e0 : k - ([c0, c1] ++ X ++ Y ++ Z).length = 0 := by omega
    rw [e0] at hc
    injection hc with hc
    subst hc
    refine ⟨⟨hok, by omega, by omega, by omega⟩, fun h => ?_⟩
    rw [List.length_append, List.length_singleton] at h
    omega
end Go.Proofs.Ytboccjdncdaakaa

/-
  callipertop.laid, walked.
-/

set_option linter.unusedVariables false
set_option maxRecDepth 100000
namespace Go.Proofs.Ytboccjdncdaakaa
open Go.RowKit
attribute [local irreducible] TL TC TQ TK TO Qt TA
def evX (x : LstV) : LstV := ⟨⟨x.l.first, x.l.tabs, x.l.stim, x.l.ev % 4, x.l.pre, x.l.pri, x.l.on, x.l.ch⟩, x.tv, x.tvs⟩
theorem evX_map (xs : List LstV) : (xs.map evX).map tabsA = xs.map tabsA := by rw [List.map_map]; rfl
theorem evX_ok {S : Nat → Prop} {W : World} {x : LstV} (h : LstOk S W x) : LstOk S W (evX x) := ⟨h.len, h.tab, h.first, by have := h.ev; show x.l.ev % 4 ≤ 255; omega, h.pre, h.pri⟩
theorem ev_cells {xs : List LstV} {i : Nat} {x : LstV} {junk : List Value} (hx : xs[i]? = some x) : ((mixF evX xs i).flatMap lstCells ++ junk).set (i * 8 + 3) (.int .u8 ((x.l.ev : Int) % 4)) = (mixF evX xs (i + 1)).flatMap lstCells ++ junk := by
  rw [cells_set (mixF_get hx) (y := evX x) (by omega) (by rw [lstCells, lstCells, evX]; rfl), mixF_set hx]
def LaidOut (v : Value) (B : List Asn) : Prop := ∃ (A : Option Addr) (c : Nat) (ys : List LstV), v = .slice A ys.length c ∧ B = [row 27 8 (.slice A ys.length c) ys.length (ys.flatMap lstCells), starL (ys.map tblA)] ∧ LaidOk (ys.map (·.l)) ∧ ys.length ≤ c ∧ c ≤ maxLen
theorem laid_none : LaidOut (.slice none 0 0) [row 27 8 (.slice none 0 0) 0 [], starL []] := ⟨none, 0, [], rfl, rfl, laid_nil, Nat.le_refl _, Nat.zero_le _⟩
theorem st_none {S : Nat → Prop} {w0 w : World} {hp : List Asn} (h : St S w0 hp w) : St S w0 [row 27 8 (.slice none 0 0) 0 [], starL []] w := st_nil (st_star0 (h.subl SubL.nil)) 27 8
attribute [local irreducible] blk row bytesA starL memA segA roB otA entA tblA tabsA
set_option maxHeartbeats 16000000 in
theorem laid_spec {A : Option Addr} {n c : Nat} {xs : List LstV} {w : World} (hA : Hold [row 27 8 (.slice A n c) n (xs.flatMap lstCells), starL (xs.map tabsA)] w) (hn : xs.length = n) (hn4 : n ≤ 4) {S : Nat → Prop} {W : World} (hok : ∀ x ∈ xs, LstOk S W x) (hto : ∀ r, Ro S W r → Ro (fps [row 27 8 (.slice A n c) n (xs.flatMap lstCells), starL (xs.map tabsA)]) w r)
    (hfew : ∀ x ∈ xs, FewT x.l) (hch : ∀ x ∈ xs, x.l.stim = true ∧ x.l.ch = true) :
    Calls Try.prog 5 #[.slice A n c] w (Ret w [row 27 8 (.slice A n c) n (xs.flatMap lstCells), starL (xs.map tabsA)] LaidOut) := by
  have hmx : maxLen = 2 ^ 63 - 1 := rfl
  refine enter (vs := [.slice A n c]) Try.func5 rfl Try.ntmps5 rfl hA ?_
  refine c_fact (p := n ≤ c ∧ c ≤ maxLen ∧ (0 < n → ∃ g, A = some ⟨g, 0, none⟩)) (fun w h => ?_) ?_
  · obtain ⟨Ao, co, e1, e2, e3, e4⟩ := row_slice (h.get (i := 0) rfl)
    injection e1 with e1 e5 e6
    subst e1 e6
    exact ⟨e2, e3, fun h0 => by obtain ⟨g, hg, _⟩ := e4 h0; exact ⟨g, hg⟩⟩
  rintro ⟨hnc, hcm, hgA⟩
  (repeat (first | (refine i_dst ?_; (first | (refine i_move ?_; refine l_q rfl rfl rfl (q_move rfl) ?_) | (refine i_assign ?_; refine l_q rfl rfl rfl (q_assign rfl) ?_) | (refine i_blt ?_; refine l_q rfl rfl rfl (by (exact q_len tab rfl rfl)) ?_))) | refine d_seq ?_ | refine c_region ?_ | refine l_nil ?_ | refine c_block ?_ | (refine i_q ?_; (refine d_then ?_))))
  refine d_loop (T := Nat) [0, 2, 13] (fun i => [(14, .int .i64 i)]) [starL (xs.map tabsA)] (fun i => [row 27 8 (.slice A n c) n ((mixF evX xs i).flatMap lstCells)]) (fun i => i ≤ n) (fun i => n - i) 0 (by first | ((repeat (first | exact Pick.nil | exact rfl | apply Pick.cons)); done) | fail) (Nat.zero_le _) (by first | ((repeat (first | exact trivial | exact rfl | apply Sub.cons | exact look_int rfl (by omega) | exact look_int rfl (by simp) | exact look_int rfl (by simp; omega))); done) | fail) (fun w h => by rw [mixF_zero]; exact h) ?_
  intro i hi
  by_cases hlt : i < n
  · obtain ⟨x, hx⟩ : ∃ x, xs[i]? = some x := ⟨_, List.getElem?_eq_getElem (by omega)⟩
    have hmx2 := mixF_get (f := evX) hx
    have hml := mixF_len evX xs i
    have hev := (hok x (List.mem_of_getElem? hx)).ev
    obtain ⟨g, hg⟩ := hgA (by omega)
    (repeat (first | (refine i_dst ?_; (first | (refine i_move ?_; refine l_q rfl rfl rfl (q_move rfl) ?_) | (refine i_assign ?_; refine l_q rfl rfl rfl (q_assign rfl) ?_) | (refine i_load ?_; refine l_q rfl rfl rfl (by ((exact q_ldF tab rfl rfl rfl (by ((exact fun w h => row_src (h.mem (by first | ((repeat (first | exact List.Mem.head _ | apply List.Mem.tail)); done) | fail))))) (by exact fun _ => rfl) (by assumption) (by exact rfl)))) ?_) | (refine i_bin ?_; refine l_q rfl rfl rfl (by (first | exact q_lss rfl rfl | exact q_rem rfl rfl (by omega) (Int.tmod_eq_emod_of_nonneg (by omega)))) ?_) | (refine i_ix ?_; refine l_q rfl rfl rfl (by ((exact q_ixSN tab rfl rfl rfl rfl (by ((exact fun w h => row_src (h.mem (by first | ((repeat (first | exact List.Mem.head _ | apply List.Mem.tail)); done) | fail))))) (by first | (with_reducible exact Int.toNat_natCast _) | (with_reducible exact Int.toNat_zero) | (with_reducible exact Int.toNat_one) | rfl) (by (omega)) (by (omega))))) ?_) | (refine l_q rfl rfl rfl (by ((apply iq_fld; ((exact q_fldS tab rfl rfl rfl rfl rfl rfl rfl (by ((exact fun w h => row_src (h.mem (by first | ((repeat (first | exact List.Mem.head _ | apply List.Mem.tail)); done) | fail))))) (by (omega))))))) ?_))) | refine d_seq ?_ | refine c_region ?_ | refine l_nil ?_ | refine c_block ?_ | (refine i_q ?_; (refine d_then ?_)) | refine c_skip ?_ | (refine i_cond ?_; (refine c_ct rfl (by (exact decide_eq_true (by omega))) ?_))))
    subst hg
    simp only [adr_some]
    refine l_ex (fun w h => row_open (by omega) h) ?_
    rintro ⟨g', junk⟩ ⟨hgg, hg1, hg2, hg3⟩
    injection hgg with hgg
    injection hgg with hgg
    subst hgg
    dsimp only at hg3 ⊢
    have ho1 : 0 + (i * 8 + 3) < ((mixF evX xs i).flatMap lstCells ++ junk).length := by rw [hg3]; omega
    (repeat (first | (refine i_dst ?_; (first | (refine i_move ?_; refine l_q rfl rfl rfl (q_move rfl) ?_) | (refine i_bin ?_; refine l_q rfl rfl rfl (by (exact q_add rfl rfl (by (exact wr_i64 (by omega))))) ?_))) | refine c_region ?_ | refine l_nil ?_ | (refine i_q ?_; (first | refine d_then ?_ | refine t_then ?_ | refine t_block ?_)) | (refine i_store ?_; ((refine l_setI tab rfl rfl rfl rfl (by first | ((repeat (first | exact Upd.head | apply Upd.tail)); done) | fail) (by (omega)) ?_)))))
    refine k_again (i + 1) (by omega) (by omega) (by first | ((repeat (first | exact trivial | exact rfl | apply Sub.cons | exact look_int rfl (by omega) | exact look_int rfl (by simp) | exact look_int rfl (by simp; omega))); done) | fail) (fun w h => ?_)
    rw [Nat.zero_add, ev_cells hx] at h
    exact row_shut hg1 hg2 (by rw [length_flat len_lst, mixF_len, hn]) (by rw [List.length_append, length_flat len_lst, mixF_len]; rw [List.length_append, length_flat len_lst, mixF_len] at hg3; exact hg3) h
  · obtain rfl : i = n := by omega
    have hmall : mixF evX xs i = xs.map evX := by rw [← hn]; exact mixF_all evX xs
    rw [hmall]
    have hlsn : (xs.map evX).length = i := by rw [List.length_map, hn]
    have hok2 : ∀ x ∈ xs.map evX, LstOk S W x := fun x hx => by
      obtain ⟨x0, h0, rfl⟩ := List.mem_map.1 hx
      exact evX_ok (hok x0 h0)
    have hfew2 : ∀ l ∈ (xs.map evX).map (·.l), FewT l := fun l hl => by
      rw [List.map_map] at hl
      obtain ⟨x, hx, rfl⟩ := List.mem_map.1 hl
      exact hfew x hx
    have hch2 : ∀ l ∈ (xs.map evX).map (·.l), l.stim = true ∧ l.ch = true := fun l hl => by
      rw [List.map_map] at hl
      obtain ⟨x, hx, rfl⟩ := List.mem_map.1 hl
      exact hch x hx
    rw [← evX_map xs] at hto ⊢
    (repeat (first | (refine i_dst ?_; (first | (refine i_move ?_; refine l_q rfl rfl rfl (q_move rfl) ?_) | (refine i_bin ?_; refine l_q rfl rfl rfl (by (exact q_lss rfl rfl)) ?_))) | refine d_seq ?_ | refine c_region ?_ | refine l_nil ?_ | (refine i_q ?_; (first | refine d_then ?_ | refine d_then_exit ?_ | refine t_then_exit ?_ | refine t_block_eq rfl ?_)) | refine c_exit ?_ | (refine i_cond ?_; ((refine c_cf rfl (by (((first | (simp; done) | fail)))) ?_)))))
    (refine l_call0 rfl rfl Try.func13 rfl (by decide) (fun w' h => splay_spec (lists_in hlsn (Ro.empty (h.mem (X := row 27 8 (.slice A i c) i ((xs.map evX).flatMap lstCells)) (by first | ((repeat (first | exact List.Mem.head _ | apply List.Mem.tail)); done) | fail))) (Ro.empty (h.mem (X := starL ((xs.map evX).map tabsA)) (by first | ((repeat (first | exact List.Mem.head _ | apply List.Mem.tail)); done) | fail))) hok2 (fun r hr => roOf0 h (hto r hr))) hn4 hfew2 hch2) (fun v B hv => ?_); obtain ⟨e, he, rfl, rfl⟩ | ⟨A2, c2, cs, rfl, rfl, hlay, hcs64⟩ := hv)
    · (repeat (first | (refine i_dst ?_; (first | (refine i_move ?_; refine l_q rfl rfl rfl (q_move rfl) ?_) | (refine i_assign ?_; refine l_q rfl rfl rfl (q_assign rfl) ?_) | refine l_q rfl rfl rfl (by (exact q_extract rfl rfl)) ?_)) | refine d_seq ?_ | refine c_region ?_ | refine l_nil ?_ | (refine i_q ?_; (refine d_then ?_))))
      (refine l_call0 rfl rfl Try.func14 rfl (by decide) (fun w' h => dnew_spec w') (fun v B hv => ?_); obtain ⟨p, rfl, rfl⟩ := hv)
      (repeat (first | (refine i_dst ?_; (first | (refine i_move ?_; refine l_q rfl rfl rfl (q_move rfl) ?_) | (refine i_assign ?_; refine l_q rfl rfl rfl (q_assign rfl) ?_) | (refine i_bin ?_; refine l_q rfl rfl rfl (by (exact q_neq rfl rfl)) ?_) | refine l_q rfl rfl rfl (by (first | exact q_extract rfl rfl | exact q_pick_t rfl rfl)) ?_)) | refine d_seq ?_ | refine c_region ?_ | refine l_nil ?_ | (refine i_q ?_; (first | refine d_then ?_ | refine d_then_ret ?_)) | refine c_ret ?_ | (refine i_guard ?_; (first | refine l_gf rfl rfl rfl rfl rfl rfl ?_ | (refine l_gfd rfl rfl rfl (by ((simp; omega))) rfl rfl ?_))) | (refine i_cond ?_; (refine c_ct rfl (by (rfl)) ?_))))
      exact t_hp (fun w h => st_none h) (t_ret1 Try.results5 rfl laid_none)
    · (repeat (first | (refine i_dst ?_; (first | (refine i_move ?_; refine l_q rfl rfl rfl (q_move rfl) ?_) | (refine i_assign ?_; refine l_q rfl rfl rfl (q_assign rfl) ?_) | refine l_q rfl rfl rfl (by (exact q_extract rfl rfl)) ?_)) | refine d_seq ?_ | refine c_region ?_ | refine l_nil ?_ | (refine i_q ?_; (refine d_then ?_))))
      (refine l_call0 rfl rfl Try.func14 rfl (by decide) (fun w' h => dnew_spec w') (fun v B hv => ?_); obtain ⟨p, rfl, rfl⟩ := hv)
      (repeat (first | (refine i_dst ?_; (first | (refine i_move ?_; refine l_q rfl rfl rfl (q_move rfl) ?_) | (refine i_assign ?_; refine l_q rfl rfl rfl (q_assign rfl) ?_) | (refine i_bin ?_; refine l_q rfl rfl rfl (by (exact q_neq rfl rfl)) ?_) | (refine i_blt ?_; refine l_q rfl rfl rfl (by (exact q_len tab rfl rfl)) ?_) | refine l_q rfl rfl rfl (by (first | exact q_extract rfl rfl | exact q_pick_f rfl rfl)) ?_)) | refine d_seq ?_ | refine c_region ?_ | refine l_nil ?_ | refine c_block ?_ | (refine i_q ?_; (refine d_then ?_)) | refine c_skip ?_ | (refine i_guard ?_; (refine l_gt rfl rfl rfl ?_)) | (refine i_cond ?_; (refine c_cf rfl (by (rfl)) ?_))))
      refine d_loop (T := Nat × DqV) [2, 6, 41, 42] (fun t => [(43, .int .i64 t.1)]) [row 59 8 (.slice A2 cs.length c2) cs.length (cs.flatMap cmdC)] (fun t => dqL p t.2) (fun t => t.1 ≤ cs.length ∧ DqOk t.2 ∧ (t.1 < cs.length → Off t.2) ∧ RunL (cs.take t.1) [] (lsOf t.2)) (fun t => cs.length - t.1) (0, dq0) (by first | ((repeat (first | exact Pick.nil | exact rfl | apply Pick.cons)); done) | fail) ⟨Nat.zero_le _, dq0_ok, fun _ => dq0_off, rfl⟩ (by first | ((repeat (first | exact trivial | exact rfl | apply Sub.cons | exact look_int rfl (by omega) | exact look_int rfl (by simp) | exact look_int rfl (by simp; omega))); done) | fail) (fun w h => ?_) ?_
      · have h1 := h.psub (hp' := [blk p [.int .i64 4, .int .i64 0, .slice none 0 0, .pointer none] 98, row 27 8 (.slice none 0 0) 0 [], starL [], emp, rowCm (.slice A2 cs.length c2) cs]) (by first | ((repeat (first | exact PSub.nil | exact Ext.head | apply Ext.tail | apply PSub.cons)); done) | fail)
        exact h1
      rintro ⟨k, d⟩ ⟨hk, hdok, hoff, hrun⟩
      dsimp only at hk hdok hoff hrun ⊢
      by_cases hkl : k < cs.length
      · obtain ⟨x, hx⟩ : ∃ x, cs[k]? = some x := ⟨_, List.getElem?_eq_getElem hkl⟩
        obtain ⟨hlc, hlast⟩ := lay_c hlay hx
        have hck : cs.take (k + 1) = cs.take k ++ [x] := by rw [List.take_add_one, hx]; rfl
        refine c_hp (hp' := [row 59 8 (.slice A2 cs.length c2) cs.length (cs.flatMap cmdC), blk p [.int .i64 4, .int .i64 d.step, .slice d.A d.xs.length d.c, ptV d.pv] 98, row 27 8 (.slice d.A d.xs.length d.c) d.xs.length (d.xs.flatMap lstCells), starL (d.xs.map tblA), ptA d.pv]) (fun w h => h.psub (by first | ((repeat (first | exact PSub.nil | exact Ext.head | apply Ext.tail | apply PSub.cons)); done) | fail)) ?_
        (repeat (first | (refine i_dst ?_; (first | (refine i_move ?_; refine l_q rfl rfl rfl (q_move rfl) ?_) | (refine i_load ?_; refine l_q rfl rfl rfl (by (first | (exact q_ldN tab rfl rfl rfl rfl (by first | ((repeat (first | exact List.Mem.head _ | apply List.Mem.tail)); done) | fail) (by first | ((repeat (first | exact TakeR.nil | apply TakeR.cons | apply CutR.zero | apply CutR.skip)); done) | fail)) | (exact q_ldFN tab rfl rfl rfl rfl (by ((exact fun w h => row_src (h.mem (by first | ((repeat (first | exact List.Mem.head _ | apply List.Mem.tail)); done) | fail))))) (by exact fun _ => rfl) (by assumption) (by exact rfl) (by exact List.cons_ne_nil _ _)))) ?_) | (refine i_bin ?_; refine l_q rfl rfl rfl (by (exact q_lss rfl rfl)) ?_) | (refine i_ix ?_; refine l_q rfl rfl rfl (by ((exact q_ixSN tab rfl rfl rfl rfl (by ((exact fun w h => row_src (h.mem (by first | ((repeat (first | exact List.Mem.head _ | apply List.Mem.tail)); done) | fail))))) (by first | (with_reducible exact Int.toNat_natCast _) | (with_reducible exact Int.toNat_zero) | (with_reducible exact Int.toNat_one) | rfl) (by (omega)) (by (omega))))) ?_) | (refine i_alloc ?_; (refine l_allocA tab rfl rfl (fun _ => ?_))))) | refine d_seq ?_ | refine c_region ?_ | refine l_nil ?_ | refine c_block ?_ | (refine i_q ?_; (refine d_then ?_)) | refine c_skip ?_ | (refine i_store ?_; ((refine l_setN tab rfl rfl rfl rfl (List.cons_ne_nil _ _) rfl (by first | ((repeat (first | exact Upd.head | apply Upd.tail)); done) | fail) (by first | ((repeat (first | exact LSets.nil | exact LSet.zero | apply LSets.cons | apply LSet.succ)); done) | fail) ?_))) | (refine i_cond ?_; (refine c_ct rfl (by (exact decide_eq_true (by omega))) ?_))))
        simp only [cmdC]
        (repeat fail)
        refine l_op rfl (fun K hK => e_call (A := dqL p d) (F := [row 59 8 (.slice A2 cs.length c2) cs.length (cs.flatMap cmdC)]) rfl rfl Try.func15 rfl (by decide) (fun w h => h.psub (hp' := [blk p [.int .i64 4, .int .i64 d.step, .slice d.A d.xs.length d.c, ptV d.pv] 98, row 27 8 (.slice d.A d.xs.length d.c) d.xs.length (d.xs.flatMap lstCells), starL (d.xs.map tblA), ptA d.pv, row 59 8 (.slice A2 cs.length c2) cs.length (cs.flatMap cmdC)]) (by first | ((repeat (first | exact PSub.nil | exact Ext.head | apply Ext.tail | apply PSub.cons)); done) | fail)) (fun w' h => ddo_spec h.split hdok (hoff hkl) x hlc) (fun v B hv => hK _ _ ?_))
        clear hK
        rcases hv with ⟨u, e, rfl, he⟩ | ⟨u, d', rfl, rfl, h1, h2, h3⟩
        · (repeat (first | (refine i_dst ?_; (first | (refine i_move ?_; refine l_q rfl rfl rfl (q_move rfl) ?_) | (refine i_assign ?_; refine l_q rfl rfl rfl (q_assign rfl) ?_) | (refine i_bin ?_; refine l_q rfl rfl rfl (by (exact q_neq rfl rfl)) ?_) | refine l_q rfl rfl rfl (by (exact q_extract rfl rfl)) ?_)) | refine d_seq ?_ | refine c_region ?_ | refine l_nil ?_ | (refine i_q ?_; (first | refine d_then ?_ | refine d_then_ret ?_ | refine t_then_ret ?_ | refine t_block_ret ?_)) | refine c_ret ?_ | (refine i_cond ?_; (refine c_ct rfl (by (exact decide_eq_true (by omega))) ?_))))
          exact t_hp (fun w h => st_none h) (t_ret1 Try.results5 rfl laid_none)
        · (repeat (first | (refine i_dst ?_; (first | (refine i_move ?_; refine l_q rfl rfl rfl (q_move rfl) ?_) | (refine i_assign ?_; refine l_q rfl rfl rfl (q_assign rfl) ?_) | (refine i_bin ?_; refine l_q rfl rfl rfl (by (first | exact q_neq rfl rfl | exact q_add rfl rfl (by (exact wr_i64 (by omega))))) ?_) | refine l_q rfl rfl rfl (by (exact q_extract rfl rfl)) ?_)) | refine d_seq ?_ | refine c_region ?_ | refine l_nil ?_ | (refine i_q ?_; (first | refine d_then ?_ | refine t_then ?_ | refine t_block ?_)) | refine c_skip ?_ | (refine i_cond ?_; (refine c_cf rfl (by (rfl)) ?_))))
          refine k_again (k + 1, d') ⟨by dsimp only; omega, h1, fun h => h2 (hlast h), ?_⟩ (by dsimp only; omega) (by first | ((repeat (first | exact trivial | exact rfl | apply Sub.cons | exact look_int rfl (by omega) | exact look_int rfl (by simp) | exact look_int rfl (by simp; omega))); done) | fail) (fun w h => h)
          dsimp only
          rw [hck]
          exact hrun.snoc h3
      · have hkn : k = cs.length := by omega
        subst hkn
        rw [List.take_length] at hrun
        have hfin := laid_ok hlay hrun hdok
        have hlen := hdok.len
        have hdok2 : ∀ l ∈ d.xs.map (·.l), LOk l := fun l hl => by
          obtain ⟨y, hy, rfl⟩ := List.mem_map.1 hl
          exact hdok.lists y hy
        refine c_hp (hp' := [blk p [.int .i64 4, .int .i64 d.step, .slice d.A d.xs.length d.c, ptV d.pv] 98, row 27 8 (.slice d.A d.xs.length d.c) d.xs.length (d.xs.flatMap lstCells), starL (d.xs.map tblA)]) (fun w h => h.psub (by first | ((repeat (first | exact PSub.nil | exact Ext.head | apply Ext.tail | apply PSub.cons)); done) | fail)) ?_
        (repeat (first | (refine i_dst ?_; (first | (refine i_move ?_; refine l_q rfl rfl rfl (q_move rfl) ?_) | (refine i_bin ?_; refine l_q rfl rfl rfl (by (exact q_lss rfl rfl)) ?_))) | refine d_seq ?_ | refine c_region ?_ | refine l_nil ?_ | (refine i_q ?_; (first | refine d_then ?_ | refine d_then_exit ?_ | refine t_then_exit ?_ | refine t_block_eq rfl ?_)) | refine c_exit ?_ | (refine i_cond ?_; ((refine c_cf rfl (by (((first | (simp; done) | fail)))) ?_)))))
        (refine l_call0 rfl rfl Try.func16 rfl (by decide) (fun w' h => dlists_spec (Ro.empty (h.mem (X := blk p [.int .i64 4, .int .i64 d.step, .slice d.A d.xs.length d.c, ptV d.pv] 98) (by first | ((repeat (first | exact List.Mem.head _ | apply List.Mem.tail)); done) | fail))) (dq_in rfl (Ro.empty (h.mem (X := row 27 8 (.slice d.A d.xs.length d.c) d.xs.length (d.xs.flatMap lstCells)) (by first | ((repeat (first | exact List.Mem.head _ | apply List.Mem.tail)); done) | fail))) (Ro.empty (h.mem (X := starL (d.xs.map tblA)) (by first | ((repeat (first | exact List.Mem.head _ | apply List.Mem.tail)); done) | fail))) hdok.lists) (by omega) hdok2) (fun v B hv => ?_); obtain ⟨A3, c3, ys, rfl, rfl, hys, hy1, hy2, hy3⟩ := hv)
        (repeat (first | (refine i_dst ?_; ((refine i_assign ?_; refine l_q rfl rfl rfl (q_assign rfl) ?_))) | refine l_nil ?_ | (refine i_q ?_; (refine d_then ?_)) | refine c_ret ?_))
        exact t_hp (hp' := [row 27 8 (.slice A3 ys.length c3) ys.length (ys.flatMap lstCells), starL (ys.map tblA)]) (fun w h => h.psub (by first | ((repeat (first | exact PSub.nil | exact Ext.head | apply Ext.tail | apply PSub.cons)); done) | fail)) (t_ret1 Try.results5 rfl ⟨A3, c3, ys, rfl, rfl, by rw [hys]; exact hfin, hy1, hy2⟩)
end Go.Proofs.Ytboccjdncdaakaa

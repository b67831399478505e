/-
  Layer 8: of, and what it calls.
-/
import Derived.Test.YtkeekkdaielipaaM4
set_option linter.unusedVariables false
set_option maxRecDepth 100000
namespace Go.Proofs.Ytkeekkdaielipaa
open Go.RowKit
attribute [local irreducible] TL TC TQ TK TO Qt TA
/-- Values of a cell each that a slice (or nil) reads. -/
def roV (A : Option Addr) (n : Nat) (vs : List Value) : Asn where
  S := fun x => 0 < n ∧ ∃ o, A = some ⟨x, o, none⟩
  C := fun w => vs.length = n ∧ (0 < n → ∃ b o, A = some ⟨b, o, none⟩ ∧ b < w.heap.size ∧ CellsAt w b o vs)
  lt := fun h b ⟨hn, o, hA⟩ => by
    obtain ⟨b', o', h1, h2, _⟩ := h.2 hn
    rw [hA] at h1
    injection h1 with h1
    injection h1 with h1
    omega
  loc := fun {w w'} hk h => ⟨h.1, fun hn => by
    obtain ⟨b, o, h1, h2, h3⟩ := h.2 hn
    have hb := hk b ⟨hn, o, h1⟩
    refine ⟨b, o, h1, ?_, fun j u hu => ?_⟩
    · have : w.heap[b]? = some (w.heap[b]'h2) := Array.getElem?_eq_getElem h2
      rw [this] at hb
      exact (Array.getElem?_eq_some_iff.1 hb).1
    · rw [World.cell?_of_block (w := w) (a := ⟨b, o + j, none⟩) hb]
      exact h3 j u hu⟩
theorem roV_blk {b : Nat} {l : List Value} {t : TypeId} {n : Nat} {w : World} (h : (blk b l t).C w) (hl : l.length = n) : (roV (some ⟨b, 0, none⟩) n l).C w :=
  ⟨hl, fun hn => ⟨b, 0, rfl, (blk b l t).lt h b rfl, fun j u hu => by rw [Nat.zero_add]; exact blk_cell h hu⟩⟩
theorem roV_nil (w : World) : (roV none 0 []).C w := ⟨rfl, fun h => by omega⟩
theorem roV_cell {A : Option Addr} {n : Nat} {vs : List Value} {w : World} (h : (roV A n vs).C w) (hn : 0 < n) : ∃ b o, A = some ⟨b, o, none⟩ ∧ CellsAt w b o vs := by
  obtain ⟨b, o, h1, _, h2⟩ := h.2 hn
  exact ⟨b, o, h1, h2⟩

section
variable {s : SegV} {w : World}
/-- Is there such a page? -/
def okPage (s : SegV) (p : Int) : Bool := decide (0 ≤ p ∧ p ≤ (s.pgs.length : Int) - 1)

set_option maxHeartbeats 4000000 in
theorem of1_spec (q : Nat) (hq : Ro (fps []) w (blk q [.pointer (some ⟨s.b, 0, none⟩)] 110)) (hs : Ro (fps []) w (segA s)) (x : Int) (hpl : s.pgs.length ≤ 4) :
    Calls Try.prog 62 #[.int .i64 x, .pointer (some ⟨q, 0, none⟩)] w (Ret w [] fun v B => v = .bool (!okPage s x) ∧ B = []) := by
  refine enter (vs := [.int .i64 x, .pointer (some ⟨q, 0, none⟩)]) Try.func62 rfl Try.ntmps62 rfl (Hold.nil w) ?_
  obtain ⟨E, e, hE, he1, he2, he3⟩ := row_slice (segA_row hs.is)
  have c1 : ∀ hp w', St (fps []) w hp w' → w'.cell? ⟨q, 0, none⟩ = some (.pointer (some ⟨s.b, 0, none⟩)) := fun hp w' h => blk_cell (h.ro hq) rfl
  have c2 : ∀ hp w', St (fps []) w hp w' → w'.cell? ⟨s.b, 0, none⟩ = some (.slice E s.pgs.length e) := fun hp w' h => by
    rw [← hE]; exact blk_cell (segA_blk (h.ro hs)) rfl
  (repeat (first | (refine i_dst ?_; (first | (refine i_move ?_; refine l_q rfl rfl rfl (q_move rfl) ?_) | (refine i_assign ?_; refine l_q rfl rfl rfl (q_assign rfl) ?_) | (refine i_load ?_; refine l_q rfl rfl rfl (by (first | exact q_load tab rfl rfl rfl (c1 _) | exact q_load tab rfl rfl rfl (c2 _))) ?_) | (refine i_bin ?_; refine l_q rfl rfl rfl (by (exact q_sub rfl rfl (by (exact wr_i64 (by omega))))) ?_) | (refine i_blt ?_; refine l_q rfl rfl rfl (by (exact q_len tab rfl rfl)) ?_) | refine l_q rfl rfl rfl (by (first | exact q_fieldAddr tab rfl rfl rfl rfl rfl rfl rfl | exact q_nilck rfl)) ?_)) | refine c_seq (fun K hK => ?_) | refine c_region ?_ | refine l_nil ?_ | refine t_then ?_ | (refine i_k ?_; (((refine hK _ _ ?_; clear hK))))))
  (refine l_op rfl (fun K hK => e_call0 rfl rfl Try.func45 rfl (by decide) (fun w' h => within_spec _ _ _ w') (fun v B hv => hK _ _ ?_)); clear hK; obtain ⟨rfl, rfl⟩ := hv)
  (repeat (first | (refine i_dst ?_; (first | (refine i_assign ?_; refine l_q rfl rfl rfl (q_assign rfl) ?_) | refine l_q rfl rfl rfl (by (exact q_not rfl)) ?_)) | refine l_nil ?_ | refine t_then ?_ | (refine i_k ?_; (((refine hK _ _ ?_; clear hK)))) | refine c_ret ?_))
  exact t_ret1 Try.results62 rfl ⟨rfl, rfl⟩

set_option maxHeartbeats 4000000 in
theorem indexf_spec (q : Nat) (hq : Ro (fps []) w (blk q [.pointer (some ⟨s.b, 0, none⟩)] 110)) (hs : Ro (fps []) w (segA s)) (hpl : s.pgs.length ≤ 4) (A : Option Addr) (n c : Nat) (ps : List Int) (hp : Ro (fps []) w (roV A n (ps.map (Value.int .i64)))) (hn : n ≤ 1000) :
    Calls Try.prog 65 #[.slice A n c, .func (.func 62) #[] #[.pointer (some ⟨q, 0, none⟩)]] w (Ret w [] fun v B => ∃ i : Int, v = .int .i64 i ∧ decide (0 ≤ i) = !(ps.all (okPage s)) ∧ B = []) := by
  refine enter (vs := [.slice A n c, .func (.func 62) #[] #[.pointer (some ⟨q, 0, none⟩)]]) Try.func65 rfl Try.ntmps65 rfl (Hold.nil w) ?_
  have hlen : ps.length = n := by simpa using hp.is.1
  (repeat (first | (refine i_dst ?_; (first | (refine i_move ?_; refine l_q rfl rfl rfl (q_move rfl) ?_) | (refine i_assign ?_; refine l_q rfl rfl rfl (q_assign rfl) ?_) | (refine i_blt ?_; refine l_q rfl rfl rfl (by (exact q_len tab rfl rfl)) ?_))) | refine c_seq (fun K hK => ?_) | refine c_region ?_ | refine l_nil ?_ | refine t_then ?_ | (refine i_k ?_; (((refine hK _ _ ?_; clear hK)))) | refine c_block ?_))
  refine c_loop (T := Nat) (fun k => [(0, .slice A n c), (1, .func (.func 62) #[] #[.pointer (some ⟨q, 0, none⟩)]), (7, .int .i64 n), (8, .int .i64 k)]) (fun _ => []) (fun k => k ≤ n ∧ (ps.take k).all (okPage s) = true) (fun k => n - k) 0 ⟨Nat.zero_le _, by simp⟩ ⟨rfl, rfl, rfl, rfl, trivial⟩ (fun _ h => h) ?_
  rintro k ⟨hk, hall⟩
  by_cases hlt : k < n
  · obtain ⟨b, o, rfl, _⟩ := roV_cell hp.is (by omega)
    obtain ⟨y, hx⟩ : ∃ y, ps[k]? = some y := ⟨_, List.getElem?_eq_getElem (show k < ps.length by omega)⟩
    have c1 : ∀ hp' w', St (fps []) w hp' w' → w'.cell? ⟨b, o + ((k : Nat) : Int).toNat, none⟩ = some (.int .i64 y) := fun hp' w' h => by
      obtain ⟨b', o', h1, h2⟩ := roV_cell (h.ro hp) (by omega)
      injection h1 with h1
      injection h1 with h1 h3
      subst h1 h3
      refine h2 k _ ?_
      rw [List.getElem?_map, hx]
      rfl
    (repeat (first | (refine i_dst ?_; (first | (refine i_move ?_; refine l_q rfl rfl rfl (q_move rfl) ?_) | (refine i_assign ?_; refine l_q rfl rfl rfl (q_assign rfl) ?_) | (refine i_load ?_; refine l_q rfl rfl rfl (by (exact q_load tab rfl rfl rfl (c1 _))) ?_) | (refine i_bin ?_; refine l_q rfl rfl rfl (by (exact q_lss rfl rfl)) ?_) | (refine i_ix ?_; refine l_q rfl rfl rfl (by (exact q_indexAddr1 tab rfl rfl rfl rfl (by omega))) ?_))) | refine c_seq (fun K hK => ?_) | refine c_region ?_ | refine l_nil ?_ | refine t_then ?_ | (refine i_k ?_; (((refine hK _ _ ?_; clear hK)))) | refine c_block ?_ | refine c_skip ?_ | (refine i_cond ?_; (refine c_ct rfl (by (exact decide_eq_true (by omega))) ?_))))
    refine l_op rfl (fun K hK => e_callv (A := []) (F := []) rfl rfl rfl Try.func62 rfl (by decide) (fun w h => h) (fun w' h => of1_spec q (roOf0 h hq) (roOf0 h hs) y hpl) (fun v B hv => hK _ _ ?_))
    obtain ⟨rfl, rfl⟩ := hv
    clear hK
    cases hok : okPage s y
    · (repeat (first | (refine i_dst ?_; (first | (refine i_move ?_; refine l_q rfl rfl rfl (q_move rfl) ?_) | (refine i_assign ?_; refine l_q rfl rfl rfl (q_assign rfl) ?_))) | refine c_seq (fun K hK => ?_) | refine c_region ?_ | refine l_nil ?_ | refine t_then ?_ | (refine i_k ?_; (((refine hK _ _ ?_; clear hK)))) | (refine i_q ?_; (first | refine t_then_ret ?_ | refine t_block_ret ?_)) | refine c_ret ?_ | (refine i_cond ?_; (refine c_ct rfl (by (rfl)) ?_))))
      refine t_ret1 Try.results65 rfl ⟨k, rfl, ?_, rfl⟩
      have : ps.all (okPage s) = false := by
        rw [List.all_eq_false]
        exact ⟨y, List.mem_of_getElem? hx, by simp [hok]⟩
      rw [this]
      simp
    · (repeat (first | (refine i_dst ?_; (first | (refine i_move ?_; refine l_q rfl rfl rfl (q_move rfl) ?_) | (refine i_bin ?_; refine l_q rfl rfl rfl (by (exact q_add rfl rfl (by (exact wr_i64 (by omega))))) ?_))) | refine c_region ?_ | refine l_nil ?_ | refine t_then ?_ | (refine i_k ?_; (((refine hK _ _ ?_; clear hK)))) | (refine i_q ?_; (refine t_block ?_)) | refine c_skip ?_ | (refine i_cond ?_; (refine c_cf rfl (by (rfl)) ?_))))
      refine k_again (k + 1) ⟨by omega, ?_⟩ (by omega) ⟨rfl, rfl, rfl, by simp [look], trivial⟩ (fun _ h => h)
      rw [List.take_add_one, hx]
      simp [hall, hok]
  · have hkn : k = n := by omega
    subst hkn
    (repeat (first | (refine i_dst ?_; (first | (refine i_assign ?_; refine l_q rfl rfl rfl (q_assign rfl) ?_) | (refine i_bin ?_; refine l_q rfl rfl rfl (by (exact q_lss rfl rfl)) ?_))) | refine c_seq (fun K hK => ?_) | refine c_region ?_ | refine l_nil ?_ | refine t_then ?_ | (refine i_k ?_; (first | ((refine hK _ _ ?_; clear hK)) | ((clear hK; refine hK _ _ ?_; clear hK)))) | (refine i_q ?_; (first | refine t_then_exit ?_ | refine t_block_eq rfl ?_)) | refine c_exit ?_ | refine c_ret ?_ | (refine i_cond ?_; ((refine c_cf rfl (by (((first | (simp; done) | fail)))) ?_)))))
    refine t_ret1 Try.results65 rfl ⟨-1, rfl, ?_, rfl⟩
    rw [List.take_of_length_le (by omega)] at hall
    rw [hall]
    rfl

set_option maxHeartbeats 4000000 in
theorem containsf_spec (q : Nat) (hq : Ro (fps []) w (blk q [.pointer (some ⟨s.b, 0, none⟩)] 110)) (hs : Ro (fps []) w (segA s)) (hpl : s.pgs.length ≤ 4) (A : Option Addr) (n c : Nat) (ps : List Int) (hp : Ro (fps []) w (roV A n (ps.map (Value.int .i64)))) (hn : n ≤ 1000) :
    Calls Try.prog 61 #[.slice A n c, .func (.func 62) #[] #[.pointer (some ⟨q, 0, none⟩)]] w (Ret w [] fun v B => v = .bool (!(ps.all (okPage s))) ∧ B = []) := by
  refine enter (vs := [.slice A n c, .func (.func 62) #[] #[.pointer (some ⟨q, 0, none⟩)]]) Try.func61 rfl Try.ntmps61 rfl (Hold.nil w) ?_
  (repeat (first | (refine i_dst ?_; (first | (refine i_move ?_; refine l_q rfl rfl rfl (q_move rfl) ?_) | (refine i_assign ?_; refine l_q rfl rfl rfl (q_assign rfl) ?_))) | refine c_seq (fun K hK => ?_) | refine c_region ?_ | refine l_nil ?_ | refine t_then ?_ | (refine i_k ?_; (((refine hK _ _ ?_; clear hK))))))
  (refine l_op rfl (fun K hK => e_call0 rfl rfl Try.func65 rfl (by decide) (fun w' h => indexf_spec q (roOf0 h hq) (roOf0 h hs) hpl A n c ps (roOf0 h hp) hn) (fun v B hv => hK _ _ ?_)); clear hK; obtain ⟨i, rfl, hi, rfl⟩ := hv)
  (repeat (first | (refine i_dst ?_; (first | (refine i_assign ?_; refine l_q rfl rfl rfl (q_assign rfl) ?_) | (refine i_bin ?_; refine l_q rfl rfl rfl (by (exact q_geq rfl rfl)) ?_))) | refine l_nil ?_ | refine t_then ?_ | (refine i_k ?_; (((refine hK _ _ ?_; clear hK)))) | refine c_ret ?_))
  exact t_ret1 Try.results61 rfl ⟨by rw [hi], rfl⟩
end

/-- What of tells. -/
def ofV (m : MemV) (seg : Int) (ps : List Int) : Value :=
  if 0 ≤ seg then match m.segs[seg.toNat]? with
    | some s => if ps.all (okPage s) then .pointer (some ⟨s.b, 0, none⟩) else .pointer none
    | none => .pointer none
  else .pointer none
section
variable {p : Nat} {m : MemV} {w : World}
set_option maxHeartbeats 4000000 in
theorem of_spec (hm : Ro (fps []) w (memA p m)) (hk : MmOk m.abs) (seg : Int) (A : Option Addr) (n c : Nat) (ps : List Int) (hp : Ro (fps []) w (roV A n (ps.map (Value.int .i64)))) (hn : n ≤ 1000) :
    Calls Try.prog 51 #[.pointer (some ⟨p, 0, none⟩), .int .i64 seg, .slice A n c] w (Ret w [] fun v B => v = ofV m seg ps ∧ B = []) := by
  refine enter (vs := [.pointer (some ⟨p, 0, none⟩), .int .i64 seg, .slice A n c]) Try.func51 rfl Try.ntmps51 rfl (Hold.nil w) ?_
  obtain ⟨B, d, hB, hd1, hd2, hd3⟩ := row_slice (memA_row hm.is)
  unfold maxLen at hd2
  have c1 : ∀ hp w', St (fps []) w hp w' → w'.cell? ⟨p, 1, none⟩ = some (.slice B m.segs.length d) := fun hp w' h => by
    rw [← hB]; exact blk_cell (memA_blk (h.ro hm)) rfl
  (repeat (first | (refine i_dst ?_; (first | (refine i_move ?_; refine l_q rfl rfl rfl (q_move rfl) ?_) | (refine i_assign ?_; refine l_q rfl rfl rfl (q_assign rfl) ?_) | (refine i_load ?_; refine l_q rfl rfl rfl (by (exact q_load tab rfl rfl rfl (c1 _))) ?_) | (refine i_bin ?_; refine l_q rfl rfl rfl (by (exact q_sub rfl rfl (by (exact wr_i64 (by omega))))) ?_) | (refine i_blt ?_; refine l_q rfl rfl rfl (by (exact q_len tab rfl rfl)) ?_) | refine l_q rfl rfl rfl (by (first | exact q_fieldAddr tab rfl rfl rfl rfl rfl rfl rfl | exact q_nilck rfl)) ?_)) | refine c_seq (fun K hK => ?_) | refine c_region ?_ | refine l_nil ?_ | refine t_then ?_ | (refine i_k ?_; (((refine hK _ _ ?_; clear hK))))))
  (refine l_op rfl (fun K hK => e_call0 rfl rfl Try.func45 rfl (by decide) (fun w' h => within_spec _ _ _ w') (fun v B hv => hK _ _ ?_)); clear hK; obtain ⟨rfl, rfl⟩ := hv)
  by_cases h1 : 0 ≤ seg ∧ seg ≤ (m.segs.length : Int) - 1
  · obtain ⟨s, hs⟩ : ∃ s, m.segs[seg.toNat]? = some s := ⟨_, List.getElem?_eq_getElem (show seg.toNat < m.segs.length by omega)⟩
    obtain ⟨gB, rfl, _⟩ := hd3 (by omega)
    have hso := hk.segs s.s (List.mem_of_getElem? (abs_seg hs))
    have hsr : Ro (fps []) w (segA s) := hm.sub (fun h => memA_seg h hs) (fun b hb => ⟨_, List.mem_of_getElem? (memL_seg hs), hb⟩)
    have hpl : s.pgs.length ≤ 4 := by have := segA_len hsr.is; have := hso.n4; omega
    have c2 : ∀ hp w', St (fps []) w hp w' → w'.cell? ⟨gB, 0 + seg.toNat, none⟩ = some (.pointer (some ⟨s.b, 0, none⟩)) := fun hp w' h => by
      have h1 := memA_row (h.ro hm)
      rw [hB] at h1
      refine row_cells h1 rfl _ _ ?_
      rw [List.getElem?_map, hs]
      rfl
    have hov : ofV m seg ps = if ps.all (okPage s) then .pointer (some ⟨s.b, 0, none⟩) else .pointer none := by rw [ofV, if_pos h1.1, hs]
    (repeat (first | (refine i_dst ?_; (first | (refine i_move ?_; refine l_q rfl rfl rfl (q_move rfl) ?_) | (refine i_load ?_; refine l_q rfl rfl rfl (by (first | exact q_load tab rfl rfl rfl (c1 _) | exact q_load tab rfl rfl rfl (c2 _))) ?_) | (refine i_ix ?_; refine l_q rfl rfl rfl (by (exact q_indexAddr1 tab rfl rfl rfl rfl (by omega))) ?_) | refine l_q rfl rfl rfl (by (first | exact q_fieldAddr tab rfl rfl rfl rfl rfl rfl rfl | exact q_nilck rfl | exact q_not rfl)) ?_)) | refine c_seq (fun K hK => ?_) | refine c_region ?_ | refine l_nil ?_ | refine t_then ?_ | (refine i_k ?_; (((refine hK _ _ ?_; clear hK)))) | refine c_skip ?_ | (refine i_cond ?_; ((refine c_cf rfl (by ((simp; omega))) ?_)))))
    refine l_op rfl (fun K hK => e_alloc tab rfl rfl rfl (fun b => hK _ _ ?_))
    clear hK
    (repeat (first | (refine i_dst ?_; (first | (refine i_move ?_; refine l_q rfl rfl rfl (q_move rfl) ?_) | refine l_q rfl rfl rfl (by (exact q_mkfunc rfl)) ?_)) | refine c_seq (fun K hK => ?_) | refine c_region ?_ | refine l_nil ?_ | refine t_then ?_ | (refine i_k ?_; (((refine hK _ _ ?_; clear hK)))) | (refine i_store ?_; ((refine l_op rfl (fun K hK => e_store1 tab rfl rfl (i := 0) rfl rfl (by (exact Nat.le_of_ble_eq_true rfl)) rfl (hK _ _ ?_)); clear hK)))))
    refine l_op rfl (fun K hK => e_call0 rfl rfl Try.func61 rfl (by decide) (fun w' h => containsf_spec b (roHp0 h (i := 0) rfl) (roOf0 h hsr) hpl A n c ps (roOf0 h hp) hn) (fun v B hv => hK _ _ ?_))
    obtain ⟨rfl, rfl⟩ := hv
    clear hK
    cases hall : ps.all (okPage s)
    · rw [hall] at hov
      (repeat (first | (refine i_dst ?_; ((refine i_assign ?_; refine l_q rfl rfl rfl (q_assign rfl) ?_))) | refine c_seq (fun K hK => ?_) | refine c_region ?_ | refine l_nil ?_ | refine t_then ?_ | (refine i_k ?_; (((refine hK _ _ ?_; clear hK)))) | (refine i_q ?_; (refine t_then_ret ?_)) | refine c_ret ?_ | (refine i_cond ?_; (refine c_ct rfl (by (rfl)) ?_))))
      exact t_hp (hp' := []) (fun w h => h.pick [] rfl) (t_ret1 Try.results51 rfl ⟨by rw [hov]; rfl, rfl⟩)
    · rw [hall] at hov
      (repeat (first | (refine i_dst ?_; (first | (refine i_assign ?_; refine l_q rfl rfl rfl (q_assign rfl) ?_) | (refine i_load ?_; refine l_q rfl rfl rfl (by (exact q_load tab rfl rfl rfl (fun w h => blk_cell (h.get (i := 0) rfl) rfl))) ?_))) | refine c_seq (fun K hK => ?_) | refine c_region ?_ | refine l_nil ?_ | refine t_then ?_ | (refine i_k ?_; (((refine hK _ _ ?_; clear hK)))) | refine c_skip ?_ | refine c_ret ?_ | (refine i_cond ?_; (refine c_cf rfl (by (rfl)) ?_))))
      exact t_hp (hp' := []) (fun w h => h.pick [] rfl) (t_ret1 Try.results51 rfl ⟨by rw [hov]; rfl, rfl⟩)
  · have hov : ofV m seg ps = .pointer none := by
      rw [ofV]
      split
      · rw [List.getElem?_eq_none (by omega)]
      · rfl
    (repeat (first | (refine i_dst ?_; (first | (refine i_assign ?_; refine l_q rfl rfl rfl (q_assign rfl) ?_) | refine l_q rfl rfl rfl (by (exact q_not rfl)) ?_)) | refine c_seq (fun K hK => ?_) | refine c_region ?_ | refine l_nil ?_ | refine t_then ?_ | (refine i_k ?_; (((refine hK _ _ ?_; clear hK)))) | (refine i_q ?_; (refine t_then_ret ?_)) | refine c_ret ?_ | (refine i_cond ?_; ((refine c_ct rfl (by ((simp; omega))) ?_)))))
    exact t_ret1 Try.results51 rfl ⟨by rw [hov], rfl⟩
end
end Go.Proofs.Ytkeekkdaielipaa

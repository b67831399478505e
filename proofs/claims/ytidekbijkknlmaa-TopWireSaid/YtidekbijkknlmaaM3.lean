/-
  Layer 8: slices.Clone, Read, Page.
-/
import Derived.Test.YtidekbijkknlmaaM2
set_option linter.unusedVariables false
set_option maxRecDepth 100000
namespace Go.Proofs.Ytidekbijkknlmaa
open Go.RowKit
attribute [local irreducible] TL TC TQ TK TO Qt TA
set_option maxHeartbeats 4000000 in
theorem clone_spec (A : Option Addr) (n c : Nat) (l : List Int) (w : World) (hr : Ro (fps []) w (roB A n l)) (hn : n ≤ 1000000) :
    Calls Try.prog 36 #[.slice A n c] w (Ret w [] fun v B => ∃ A' c', v = .slice A' l.length c' ∧ B = [bytesA (.slice A' l.length c') l]) := by
  refine enter (vs := [.slice A n c]) Try.func36 rfl Try.ntmps36 rfl (Hold.nil w) ?_
  have hoct := roB_oct hr.is
  have hlen := roB_len hr.is
  cases A with
  | none =>
    have hl : l = [] := by
      rcases Nat.eq_zero_or_pos n with h | h
      · exact List.eq_nil_of_length_eq_zero (by omega)
      · obtain ⟨b, o, h1, _⟩ := hr.is.2.2 h
        cases h1
    subst hl
    (repeat (first | (refine i_dst ?_; (first | (refine i_move ?_; refine l_q rfl rfl rfl (q_move rfl) ?_) | (refine i_assign ?_; refine l_q rfl rfl rfl (q_assign rfl) ?_) | (refine i_bin ?_; refine l_q rfl rfl rfl (by (exact q_eqsl tab rfl rfl rfl)) ?_))) | refine c_seq (fun K hK => ?_) | refine c_region ?_ | refine l_nil ?_ | refine t_then ?_ | (refine i_k ?_; (((refine hK _ _ ?_; clear hK)))) | (refine i_q ?_; (refine t_then_ret ?_)) | refine c_ret ?_ | (refine i_cond ?_; (refine c_ct rfl (by (rfl)) ?_))))
    refine t_hp (hp' := [bytesA (.slice none 0 0) []]) (fun w h => ?_) (t_ret1 Try.results36 rfl ⟨none, 0, rfl, rfl⟩)
    exact h.new (Kept.refl _ _) ⟨Oct.nil, World.ownsRow_nil _ _ _ _⟩ (fun b hb => by cases hb)
  | some a =>
    (repeat (first | (refine i_dst ?_; (first | (refine i_move ?_; refine l_q rfl rfl rfl (q_move rfl) ?_) | (refine i_assign ?_; refine l_q rfl rfl rfl (q_assign rfl) ?_) | (refine i_bin ?_; refine l_q rfl rfl rfl (by (exact q_eqsl tab rfl rfl rfl)) ?_))) | refine c_seq (fun K hK => ?_) | refine c_region ?_ | refine l_nil ?_ | refine t_then ?_ | (refine i_k ?_; (((refine hK _ _ ?_; clear hK)))) | refine c_skip ?_ | (refine i_cond ?_; (refine c_cf rfl (by (rfl)) ?_))))
    refine l_op rfl (fun K hK => e_buildSlice (l := []) (e := 5) rfl rfl (fun w => by kernel_rfl) (fun b => hK _ _ ?_))
    clear hK
    (repeat ((refine i_dst ?_; ((refine i_move ?_; refine l_q rfl rfl rfl (q_move rfl) ?_)))))
    refine l_hp (hp' := [row 5 1 (.slice (some ⟨b, 0, none⟩) 0 0) 0 []]) (fun w h => h.see (i := 0) rfl (fun h => row_of_blk h 1 0 0 (Nat.le_refl _) (Nat.zero_le _) rfl [] rfl) (fun b hb => by injection hb with hb; exact hb.symm)) ?_
    refine l_op rfl (fun K hK => e_append tab (i := 0) rfl rfl rfl rfl rowB (news := bv l) (fun w h => ?_) (bv_one l) ?_ ?_ (fun A' c' hA1 hA2 => hK _ _ ?_))
    · rw [Nat.mul_one]; exact roB_src (h.ro hr)
    · simp only [maxLen]; omega
    · omega
    clear hK
    (repeat (first | (refine i_dst ?_; ((refine i_assign ?_; refine l_q rfl rfl rfl (q_assign rfl) ?_))) | refine l_nil ?_ | refine t_then ?_ | (refine i_k ?_; (((refine hK _ _ ?_; clear hK)))) | refine c_ret ?_))
    have e0 : 0 + n = l.length := by omega
    rw [e0]
    refine t_hp (hp' := [bytesA (.slice A' l.length c') l]) (fun w h => ?_) (t_ret1 Try.results36 rfl ⟨A', c', rfl, rfl⟩)
    exact h.see (i := 0) rfl (fun h => ⟨hoct, by simpa using h⟩) (fun b hb => hb)

/-- What Read tells. -/
def readM (M : Mm) (who area : Nat) (at_ n : Int) : List Int × Int :=
  if (who ≠ 1 ∧ who ≠ 2) ∨ n < 0 then ([], 1)
  else match areaM M who area with
    | none => ([], 80)
    | some (l, _) => if n > l.length ∨ at_ > l.length - n then ([], 80) else ((l.drop at_.toNat).take n.toNat, 0)
theorem roB_cut {A : Option Addr} {n c a k : Nat} {l : List Int} {w : World} (h : (roB A n l).C w) (hc : n ≤ c) (hk : a + k ≤ n) : (roB (cutA A c a 1) k ((l.drop a).take k)).C w := by
  refine ⟨by rw [List.length_take, List.length_drop, h.1]; omega, (h.2.1.drop a).take k, fun hk0 => ?_⟩
  obtain ⟨b, o, rfl, h2, h3⟩ := h.2.2 (by omega)
  refine ⟨b, o + a, ?_, h2, fun j u hu => ?_⟩
  · rw [cutA, if_neg (by omega)]
    simp [Addr.add_lit]
  · have hj : j < k := by
      have := (List.getElem?_eq_some_iff.1 hu).1
      rw [length_bv, List.length_take] at this
      omega
    rw [show o + a + j = o + (a + j) by omega]
    refine h3 (a + j) u ?_
    rw [← hu]
    simp [bv, hj, List.getElem?_drop]
theorem roB_cutS {A : Option Addr} {n c a k : Nat} {l l' : List Int} {w : World} (h : (roB A n l).C w) (hc : n ≤ c) (hk : a + k ≤ n) (b : Nat) (hb : (roB (cutA A c a 1) k l').S b) : (roB A n l).S b := by
  obtain ⟨h1, o, h2⟩ := hb
  obtain ⟨b', o', rfl, _⟩ := h.2.2 (by omega)
  refine ⟨by omega, o', ?_⟩
  rw [cutA, if_neg (by omega)] at h2
  simp [Addr.add_lit] at h2
  rw [h2.1]
section
variable {p : Nat} {m : MemV} {w : World}
/-- What part leaves for Read. -/
theorem part_ro (h : (memA p m).C w) (hk : MmOk m.abs) (who area : Nat) (at_ n : Int) (ha0 : 0 ≤ at_) : ∃ A k c l e f, partV m who area at_ n = .tuple #[.slice A k c, .bool f, .int .i64 e] ∧ (l, e) = readM m.abs who area at_ n ∧ (roB A k l).C w ∧ (∀ b, (roB A k l).S b → (memA p m).S b) ∧ k ≤ 1000000 := by
  unfold partV readM
  by_cases h1 : (who ≠ 1 ∧ who ≠ 2) ∨ n < 0
  · rw [if_pos h1, if_pos h1]
    exact ⟨_, _, _, _, _, _, rfl, rfl, ⟨rfl, Oct.nil, fun h => by omega⟩, fun b h => by have := h.1; omega, by omega⟩
  · rw [if_neg h1, if_neg h1]
    rcases areaV_abs (who := who) (area := area) h hk with ⟨v, l, f, h2, h3, h4, h8, h9⟩ | ⟨h2, h3⟩
    · rw [h2, h3]
      dsimp only
      by_cases h5 : n > l.length ∨ at_ > l.length - n
      · rw [if_pos h5, if_pos h5]
        exact ⟨_, _, _, _, _, _, rfl, rfl, ⟨rfl, Oct.nil, fun h => by omega⟩, fun b h => by have := h.1; omega, by omega⟩
      · rw [if_neg h5, if_neg h5]
        obtain ⟨A, c, rfl, hc, hm, h6, h7⟩ := bytesA_ro h4
        refine ⟨_, _, _, _, _, _, rfl, rfl, roB_cut h6 hc (by omega), fun b hb => ?_, ?_⟩
        · exact h8 b (h7 b (roB_cutS h6 hc (by omega) b hb))
        · omega
    · rw [h2, h3]
      exact ⟨_, _, _, _, _, _, rfl, rfl, ⟨rfl, Oct.nil, fun h => by omega⟩, fun b h => by have := h.1; omega, by omega⟩
set_option maxHeartbeats 4000000 in
theorem read_spec (hm : Ro (fps []) w (memA p m)) (hk : MmOk m.abs) (who area : Nat) (at_ n : Int) (hw : who ≤ 255) (ha : area ≤ 255) (hn : -9223372036854775808 ≤ n ∧ n ≤ 9223372036854775807) (ha0 : 0 ≤ at_) (ha1 : at_ ≤ 4294967295) :
    Calls Try.prog 33 (partArgs p who area at_ n).toArray w (Ret w [] fun v B => ∃ A c, v = .tuple #[.slice A (readM m.abs who area at_ n).1.length c, .int .i64 (readM m.abs who area at_ n).2] ∧ B = [bytesA (.slice A (readM m.abs who area at_ n).1.length c) (readM m.abs who area at_ n).1]) := by
  refine enter Try.func33 rfl Try.ntmps33 rfl (Hold.nil w) ?_
  obtain ⟨A, k, c, l, e, f, h1, h2, h3, h4, h5⟩ := part_ro hm.is hk who area at_ n ha0
  rw [← h2]
  have hr : Ro (fps []) w (roB A k l) := hm.sub (fun _ => h3) h4
  (repeat (first | (refine i_dst ?_; (first | (refine i_move ?_; refine l_q rfl rfl rfl (q_move rfl) ?_) | (refine i_assign ?_; refine l_q rfl rfl rfl (q_assign rfl) ?_))) | refine c_seq (fun K hK => ?_) | refine c_region ?_ | refine l_nil ?_ | refine t_then ?_ | (refine i_k ?_; (((refine hK _ _ ?_; clear hK))))))
  (refine l_op rfl (fun K hK => e_call0 rfl rfl Try.func58 rfl (by decide) (fun w' h => part_spec (roOf0 h hm) hk who area at_ n hw ha hn ha0 ha1) (fun v B hv => hK _ _ ?_)); clear hK; obtain ⟨rfl, rfl⟩ := hv)
  rw [h1]
  (repeat (first | (refine i_dst ?_; (first | (refine i_move ?_; refine l_q rfl rfl rfl (q_move rfl) ?_) | (refine i_assign ?_; refine l_q rfl rfl rfl (q_assign rfl) ?_) | refine l_q rfl rfl rfl (by (exact q_extract rfl rfl)) ?_)) | refine c_seq (fun K hK => ?_) | refine c_region ?_ | refine l_nil ?_ | refine t_then ?_ | (refine i_k ?_; (((refine hK _ _ ?_; clear hK))))))
  (refine l_op rfl (fun K hK => e_call0 rfl rfl Try.func36 rfl (by decide) (fun w' h => clone_spec A k c l w' (roOf0 h hr) h5) (fun v B hv => hK _ _ ?_)); clear hK; obtain ⟨A2, c2, rfl, rfl⟩ := hv)
  (repeat (first | (refine i_dst ?_; (first | (refine i_move ?_; refine l_q rfl rfl rfl (q_move rfl) ?_) | (refine i_assign ?_; refine l_q rfl rfl rfl (q_assign rfl) ?_))) | refine l_nil ?_ | refine t_then ?_ | (refine i_k ?_; (((refine hK _ _ ?_; clear hK)))) | refine c_ret ?_))
  exact t_ret2 Try.results33 rfl rfl ⟨A2, c2, rfl, rfl⟩
end
end Go.Proofs.Ytidekbijkknlmaa

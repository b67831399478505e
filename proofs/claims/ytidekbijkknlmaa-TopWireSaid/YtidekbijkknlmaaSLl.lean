/-
  Regions that draw their order, with two stores that change what is read: three stretches of memory.
-/
import Derived.Test.YtidekbijkknlmaaSLk
set_option linter.unusedVariables false
set_option maxRecDepth 100000
namespace Go.Proofs.Ytidekbijkknlmaa
open Go.RowKit
section
variable {P : Program} {ops : Array Oper} {Q : Exit → Act → World → Prop} {N : Nat} {S : Nat → Prop} {w0 : World}
theorem wpX_permR {R : List Nat → World → Prop} (hR : ∀ l l' w, (∀ k, l.any (Nat.beq k) = l'.any (Nat.beq k)) → R l w → R l' w) : ∀ (f : Nat) (l l' : List Nat) (a : Act) (w : World), (∀ k, l.any (Nat.beq k) = l'.any (Nat.beq k)) → wpX P ops Q N R f l a w → wpX P ops Q N R f l' a w
  | 0, l, l', a, w, hp, h => by
    have : lst N l = lst N l' := by simp only [lst]; congr 1; exact List.map_congr_left fun k _ => hp k
    unfold wpX at h ⊢
    rw [← this]
    exact h
  | f + 1, l, l', a, w, hp, h => by
    have : lst N l = lst N l' := by simp only [lst]; congr 1; exact List.map_congr_left fun k _ => hp k
    unfold wpX at h ⊢
    rw [← this]
    refine ⟨h.1, fun i hi => wpOp_mono (fun a' w' h' => ?_) (h.2 i hi)⟩
    have hp' : ∀ k, (i :: l).any (Nat.beq k) = (i :: l').any (Nat.beq k) := fun k => by simp only [List.any_cons, hp k]
    refine ⟨?_, wpX_permR hR f _ _ a' w' hp' h'.2⟩
    exact hR _ _ _ hp' h'.1
/-- An operation that only reads may be taken first, if it yields its value whenever it may come. -/
theorem wpX_takeR {R : List Nat → World → Prop} (hR : ∀ l l' w, (∀ k, l.any (Nat.beq k) = l'.any (Nat.beq k)) → R l w → R l' w) {i : Nat} {oi : Oper} {v : Value} (hi : ops[i]? = some oi) (hiN : i < N) (hcons : ∀ (l : List Nat) (w : World), R (i :: l) w ↔ R l w) (hsel : Region.noSelect ops = true) (hQ : ∀ c a w, Q (.panic c) a w → False) (I : List Nat → Prop) (hI : ∀ dn j, I dn → dn.any (Nat.beq i) = false → j ∈ Region.ready .any ops (lst N dn) → j ≠ i → I (j :: dn)) :
    ∀ (f : Nat) (dn : List Nat) (a : Act) (w : World), Region.free .any ops (lst N dn) i = true → i ∈ Region.ready .any ops (lst N dn) → dn.any (Nat.beq i) = false → I dn → YieldsIf P ops (fun w => ∃ dn', dn'.any (Nat.beq i) = false ∧ I dn' ∧ R dn' w) oi v a → R dn w →
      wpX P ops Q N R f (i :: dn) (a.put oi.dst v) w → wpX P ops Q N R (f + 1) dn a w := by
  intro f
  induction f with
  | zero =>
    intro dn a w hfree hr hni hId hy hs H
    refine ⟨fun h => (by rw [h] at hr; cases hr), fun j hj => ?_⟩
    by_cases hji : j = i
    · subst hji
      exact hy.wpOp hi ⟨dn, hni, hId, hs⟩ ⟨(hcons _ _).2 hs, H⟩
    · have := ready_mono hj hji
      rw [lst_set hiN, H.1] at this
      cases this
  | succ f ih =>
    intro dn a w hfree hr hni hId hy hs H
    refine ⟨fun h => (by rw [h] at hr; cases hr), fun j hj => ?_⟩
    by_cases hji : j = i
    · subst hji
      exact hy.wpOp hi ⟨dn, hni, hId, hs⟩ ⟨(hcons _ _).2 hs, H⟩
    · have hjN := ready_lt hj
      have hjr := ready_mono hj hji
      rw [lst_set hiN] at hjr
      have h1 := H.2 j hjr
      obtain ⟨hjun, oj, hoj, hall⟩ := mem_ready.1 hj
      have hnot : ∀ x ∈ oj.after, Region.binds .any x = true → x.on ≠ i := fun x hx hbx heq => by
        have h2 := hall x hx hbx
        have h0 := (mem_ready.1 hr).1
        rw [heq] at h2
        simp only [Array.getD_eq_getD_getElem?] at h0 h2
        cases hq : (lst N dn)[i]? with
        | none => rw [hq] at h2; cases h2
        | some b => rw [hq] at h0 h2; simp only [Option.getD_some] at h0 h2; rw [h0] at h2; cases h2
      have hap : oi.apart ops oj = true := Region.free_spec hi hfree j oj hoj hji hjun hnot
      have h2 := wpOp_putIf hoj hap (fun cs b => Region.noSelect_spec hsel i oi cs b hi) (fun cs b => Region.noSelect_spec hsel j oj cs b hoj) (fun c a w h => (hQ c _ w h).elim) hy h1
      refine wpOp_mono (fun a' w' h3 => ?_) h2
      obtain ⟨hy', hs2, hX⟩ := h3
      have hs3 : R (j :: dn) w' := by
        refine (hcons _ _).1 ?_
        exact hR _ _ _ (fun k => same_any k) hs2
      refine ⟨hs3, ih (j :: dn) a' w' ?_ ?_ ?_ (hI dn j hId hni hj hji) hy' hs3 (wpX_permR hR f _ _ _ _ (fun k => same_any k) hX)⟩
      · rw [← lst_set hjN]
        unfold Region.free at hfree ⊢
        rw [hi] at hfree ⊢
        simp only [List.all_eq_true, List.mem_range, Bool.or_eq_true] at hfree ⊢
        intro k hk
        rcases hfree k hk with h | h
        · rcases h with h | h
          · exact .inl (.inl h)
          · refine .inl (.inr ?_)
            by_cases hjk : j = k
            · subst hjk
              have hsz : j < (lst N dn).size := by simpa [lst] using hjN
              simp [hsz]
            · rw [getD_set_ne true hjk]
              exact h
        · exact .inr h
      · have := ready_mono hr (Ne.symm hji)
        rwa [lst_set hjN] at this
      · rw [List.any_cons, beq_ne (Ne.symm hji), Bool.false_or]
        exact hni
end
/-- What is sure: till operation e h0, till operation f h1, then h2. -/
def Sy (S : Nat → Prop) (w0 : World) (e f : Nat) (h0 h1 h2 : List Asn) (dn : List Nat) (w : World) : Prop := St S w0 (bif dn.any (Nat.beq f) then h2 else bif dn.any (Nat.beq e) then h1 else h0) w
def TB (P : Program) (n : Nat) (S : Nat → Prop) (w0 : World) (Q : Exit → Act → World → Prop) (ops : Array Oper) (N e f : Nat) (h0 h1 h2 : List Asn) (fuel : Nat) (dn : List Nat) (env : Env) (hp : List Asn) : Prop :=
  (∀ w, St S w0 hp w → Sy S w0 e f h0 h1 h2 dn w) → ∀ a w, Fr env n a → St S w0 hp w → wpX P ops (Qn Q) N (Sy S w0 e f h0 h1 h2) fuel dn a w
section
variable {P : Program} {n : Nat} {S : Nat → Prop} {w0 w : World} {Q : Exit → Act → World → Prop} {ops : Array Oper} {env : Env} {hp h0 h1 h2 : List Asn} {fuel N e f : Nat} {dn : List Nat}
theorem Sy.any (l l' : List Nat) (w : World) (h : ∀ k, l.any (Nat.beq k) = l'.any (Nat.beq k)) (hs : Sy S w0 e f h0 h1 h2 l w) : Sy S w0 e f h0 h1 h2 l' w := by
  unfold Sy at hs ⊢
  rwa [← h e, ← h f]
theorem Sy.cons {i : Nat} (he : e ≠ i) (hf : f ≠ i) (l : List Nat) (w : World) : Sy S w0 e f h0 h1 h2 (i :: l) w ↔ Sy S w0 e f h0 h1 h2 l w := by
  unfold Sy
  rw [List.any_cons, List.any_cons, beq_ne he, beq_ne hf, Bool.false_or, Bool.false_or]
theorem b_begin {id : Nat} (hm : P.follows .mixedOrders = true) (h0 h1 h2 : List Asn) (N e f : Nat) (hN : ops.size = N) (hH : ∀ w, St S w0 hp w → St S w0 h0 w) (h : TB P n S w0 Q ops N e f h0 h1 h2 N [] env hp) : TC P n S w0 Q (.region id ops true) env hp := fun a w hE hS => by
  subst hN
  have h1 := wpAny_of_X _ _ _ _ (h (fun w h => hH w h) a w.drew hE hS.drew)
  rw [← lst_nil] at h1
  exact wp_mono (wp_region_any (id := id) hm h1) fun e a w hq => by cases e <;> first | exact hq | exact hq.elim
/-- An operation that only reads, and comes before e. -/
theorem b_q0 (i : Nat) {o : Oper} {d : Nat} {v : Value} (hi : ops[i]? = some o) (hni : dn.any (Nat.beq i) = false) (hg : o.guard = none) (hd : o.dst = some d) (hdn : Nat.blt d n = true) (hc : (chk ops N e dn i && chk ops N f dn i && direct ops e i && direct ops f i && !(dn.any (Nat.beq e)) && !(dn.any (Nat.beq f))) = true) (hq : Qt P S w0 o env h0 v) (h : TB P n S w0 Q ops N e f h0 h1 h2 fuel (i :: dn) ((d, v) :: env) hp) : TB P n S w0 Q ops N e f h0 h1 h2 (fuel + 1) dn env hp := fun hH a w hE hS => by
  simp only [Bool.and_eq_true, Bool.not_eq_true'] at hc
  obtain ⟨⟨⟨⟨⟨c1, c2⟩, c3⟩, c4⟩, c5⟩, c6⟩ := hc
  obtain ⟨k0, hie, k1, k2, k3⟩ := chk_spec c1
  obtain ⟨-, hif, -⟩ := chk_spec c2
  refine wpX_takeR Sy.any (v := v) hi k0 (Sy.cons hie hif) k1 qn_panic (fun dn' => dn'.any (Nat.beq e) = false ∧ dn'.any (Nat.beq f) = false) (fun dn' j hd' hni' hj hji => ⟨?_, ?_⟩) fuel dn a w k2 k3 hni ⟨c5, c6⟩ (.inl ⟨by simp [Region.wanted, hg], fun w' ⟨dn', _, he, hw'⟩ => hq n a w' hE (by unfold Sy at hw'; rw [he.1, he.2] at hw'; exact hw')⟩) (hH w hS) ?_
  · rw [List.any_cons, hd'.1, Bool.or_false]
    by_cases hej : e = j
    · exfalso
      subst hej
      have := ready_dep hj c3 k0
      rw [hni'] at this
      cases this
    · exact beq_ne hej
  · rw [List.any_cons, hd'.2, Bool.or_false]
    by_cases hej : f = j
    · exfalso
      subst hej
      have := ready_dep hj c4 k0
      rw [hni'] at this
      cases this
    · exact beq_ne hej
  · rw [hd]
    exact h (fun w hw => (Sy.cons hie hif _ _).2 (hH w hw)) _ w (hE.put hdn v) hS
/-- An operation that only reads, and comes before f; what it reads e does not change. -/
theorem b_q1 (i : Nat) {o : Oper} {d : Nat} {v : Value} (h01 : ∀ w, St S w0 h0 w → St S w0 h1 w) (hi : ops[i]? = some o) (hni : dn.any (Nat.beq i) = false) (hg : o.guard = none) (hd : o.dst = some d) (hdn : Nat.blt d n = true) (hc : (chk ops N e dn i && chk ops N f dn i && direct ops f i && !(dn.any (Nat.beq f))) = true) (hq : Qt P S w0 o env h1 v) (h : TB P n S w0 Q ops N e f h0 h1 h2 fuel (i :: dn) ((d, v) :: env) hp) : TB P n S w0 Q ops N e f h0 h1 h2 (fuel + 1) dn env hp := fun hH a w hE hS => by
  simp only [Bool.and_eq_true, Bool.not_eq_true'] at hc
  obtain ⟨⟨⟨c1, c2⟩, c4⟩, c6⟩ := hc
  obtain ⟨k0, hie, k1, k2, k3⟩ := chk_spec c1
  obtain ⟨-, hif, -⟩ := chk_spec c2
  refine wpX_takeR Sy.any (v := v) hi k0 (Sy.cons hie hif) k1 qn_panic (fun dn' => dn'.any (Nat.beq f) = false) (fun dn' j hd' hni' hj hji => ?_) fuel dn a w k2 k3 hni c6 (.inl ⟨by simp [Region.wanted, hg], fun w' ⟨dn', _, he, hw'⟩ => hq n a w' hE (by
    unfold Sy at hw'
    rw [he] at hw'
    cases hx : dn'.any (Nat.beq e) with
    | true => rw [hx] at hw'; exact hw'
    | false => rw [hx] at hw'; exact h01 _ hw')⟩) (hH w hS) ?_
  · rw [List.any_cons, hd', Bool.or_false]
    by_cases hej : f = j
    · exfalso
      subst hej
      have := ready_dep hj c4 k0
      rw [hni'] at this
      cases this
    · exact beq_ne hej
  · rw [hd]
    exact h (fun w hw => (Sy.cons hie hif _ _).2 (hH w hw)) _ w (hE.put hdn v) hS
theorem b_e (i : Nat) {o : Oper} (hi : ops[i]? = some o) (hr : ((Region.ready .any ops (lst N dn)) == [i]) = true) (hg : o.guard = none)
    (h : ∀ K : Act → World → Prop, (∀ env hp', (∀ w, St S w0 hp' w → Sy S w0 e f h0 h1 h2 (i :: dn) w) → TB P n S w0 Q ops N e f h0 h1 h2 fuel (i :: dn) env hp' → TK n S w0 K env hp') → TO P n S w0 (Qn Q) o K env hp) : TB P n S w0 Q ops N e f h0 h1 h2 (fuel + 1) dn env hp := fun hH a w hE hS => by
  have hr' : Region.ready .any ops (lst N dn) = [i] := by simpa using hr
  refine ⟨fun h0 => (by rw [hr'] at h0; cases h0), fun j hj => ?_⟩
  rw [hr', List.mem_singleton] at hj
  subst hj
  exact wpOp_of hi hg (h _ (fun env' hp' hz' ht a' w' hE' hS' => ⟨hz' w' hS', ht hz' a' w' hE' hS'⟩) a w hE hS)
theorem b_hp {hp' : List Asn} (hH : ∀ w, St S w0 hp w → St S w0 hp' w) (hz : ∀ w, St S w0 hp' w → Sy S w0 e f h0 h1 h2 dn w) (h : TB P n S w0 Q ops N e f h0 h1 h2 fuel dn env hp') : TB P n S w0 Q ops N e f h0 h1 h2 fuel dn env hp := fun _ a w hE hS => h hz a w hE (hH w hS)
theorem b_done (hr : (Region.ready .any ops (lst N dn)).isEmpty = true) (h : TQ n S w0 Q .normal env hp) : TB P n S w0 Q ops N e f h0 h1 h2 fuel dn env hp := fun hH a w hE hS => by
  have hr' : Region.ready .any ops (lst N dn) = [] := by simpa using hr
  cases fuel with
  | zero => exact ⟨hr', h a w hE hS⟩
  | succ f => exact ⟨fun _ => h a w hE hS, fun i hi => by rw [hr'] at hi; cases hi⟩
end
end Go.Proofs.Ytidekbijkknlmaa

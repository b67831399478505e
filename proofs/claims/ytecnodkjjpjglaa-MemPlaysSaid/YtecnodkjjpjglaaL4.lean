/-
  Layer 8: what the statements' walks share; the plain law of MemPages.
-/
import Derived.Test.YtecnodkjjpjglaaO1
set_option linter.unusedVariables false
set_option maxRecDepth 100000
namespace Go.Proofs.Ytecnodkjjpjglaa
open Go.RowKit
attribute [local irreducible] TL TC TQ TK TO Qt TA


theorem law_of {f : FuncId} {args : Array Value} {W : World} {P : Program} (h : Calls P f args W (Ret W [] fun v _ => v = .bool true)) : Calls P f args W fun e w' => e = .returned (.bool true) ∧ Below W.heap.size W w' :=
  h.mono fun e w' ⟨v, B, he, hv, hs⟩ => ⟨by rw [he, hv], hs.kept.below (fun x ⟨_, hX, _⟩ => by cases hX)⟩
theorem good_ok (x : MapI) : okMap (goodM x) := by
  refine ⟨by simp only [goodM]; omega, by simp only [goodM]; omega, by simp [goodM]; omega, by simp [goodM], fun i s hs => ?_⟩
  simp only [goodM, List.getElem?_map, Option.map_eq_some_iff] at hs
  obtain ⟨t, _, rfl⟩ := hs
  simp only [okSeg, goodS, flashOf, goodM, List.getD_nil, List.length_nil]
  omega
theorem good_seg {x : MapI} {i : Nat} {s : Int × Int} (h : (goodM x).segs[i]? = some s) : 1 ≤ s.1 ∧ s.1 ≤ 16 ∧ 2 ≤ s.2 ∧ s.2 ≤ 4 := by
  simp only [goodM, List.getElem?_map, Option.map_eq_some_iff] at h
  obtain ⟨t, _, rfl⟩ := h
  simp only [goodS]
  omega
theorem newSegs_get {x : MapI} {k i : Nat} {s : Int × Int} (hi : i < k) (hs : x.segs[i]? = some s) : (newSegs x k)[i]? = some (segOf x i s) := by
  simp [newSegs, hi, List.getD_eq_getElem?_getD, hs]
theorem InMap.good {x : MapI} {w : World} {A : Option Addr} {c : Nat} (h : (row 53 2 (.slice A (goodM x).segs.length c) (goodM x).segs.length (segCells (goodM x).segs)).C w) (hc : (goodM x).segs.length ≤ c) (hm : c ≤ maxLen) : InMap (fps []) w (.agg #[.int .i64 (goodM x).ram, .slice A (goodM x).segs.length c, .slice none 0 0]) (goodM x) :=
  ⟨⟨A, c, none, 0, 0, rfl, hc, hm, Ro.empty (roV_row h), InBB.nil, Nat.le_refl _, Nat.zero_le _⟩⟩

/-! ### The plain law of MemPages -/
theorem there_of {M : Mm} {k : Nat} {s : Seg} {ps : List Int} (hs : M.segs[k]? = some s) (hp : ∀ p ∈ ps, 0 ≤ p ∧ p ≤ (s.dat.length : Int) - 1) : thereM M (k : Int) ps = some s := by
  rw [thereM, if_pos (by omega), Int.toNat_natCast, hs]
  dsimp only
  rw [if_pos]
  rw [List.all_eq_true]
  intro p h
  exact decide_eq_true (hp p h)
theorem set_of {M : Mm} {k : Nat} {s : Seg} {p w : Nat} (hs : M.segs[k]? = some s) (hp : p < s.dat.length) (hw : 1 ≤ w ∧ w ≤ 3) : setM M w k p = (⟨M.ram, M.segs.set k ⟨s.ln, s.dat, if w = 2 then s.s0 else p, if w = 1 then s.s1 else p⟩⟩, 0) := by
  rw [setM, if_neg (by omega), there_of hs (fun x hx => by simp at hx; omega)]
  simp
theorem get_set {l : List Seg} {k : Nat} {s t : Seg} (h : l[k]? = some s) : (l.set k t)[k]? = some t := by
  rw [List.getElem?_set_self (List.getElem?_eq_some_iff.1 h).1]
theorem area_of {M : Mm} {k w : Nat} {s : Seg} {l : List Int} (hs : M.segs[k]? = some s) (hl : s.dat[if w = 1 then s.s0 else s.s1]? = some l) : areaM M w (k + 1) = some (l, decide ((if w = 1 then s.s0 else s.s1) = 0)) := by
  rw [areaM, if_neg (by omega), Nat.add_sub_cancel, hs]
  dsimp only
  rw [hl]
theorem read_of {M : Mm} {k w : Nat} {s : Seg} {l c : List Int} (hs : M.segs[k]? = some s) (hl : s.dat[if w = 1 then s.s0 else s.s1]? = some l) (hw : w = 1 ∨ w = 2) (hc : l.take c.length = c) : readM M w (k + 1) 0 c.length = (c, 0) := by
  have hn : c.length ≤ l.length := by
    have := congrArg List.length hc
    rw [List.length_take] at this
    omega
  rw [readM, if_neg (by omega), area_of hs hl]
  dsimp only
  rw [if_neg (by omega)]
  simp [hc]
theorem pages_law {M : Mm} {k : Nat} {s : Seg} (hk : MmOk M) (hs : M.segs[k]? = some s) (h0 : s.s0 = 0) {p q ww : Nat} (hp : 1 ≤ p ∧ p < s.dat.length) (hq : 1 ≤ q ∧ q < s.dat.length) (hw : 1 ≤ ww ∧ ww ≤ 3) (c : List Int) (hc : c.length ≤ s.ln) :
    ∃ M1 M2 M3 M4, setM M 2 k p = (M1, 0) ∧ writeM M1 2 (k + 1) 0 c = (M2, 0) ∧ copyM M2 k p q = (M3, 0) ∧ setM M3 ww k q = (M4, 0) ∧ pageM M4 1 k = (((if ww = 2 then 0 else q : Nat) : Int), 0) ∧ pageM M4 2 k = (((if ww = 1 then p else q : Nat) : Int), 0) ∧ readM M4 2 (k + 1) 0 c.length = (c, 0) ∧ copyM M4 k p 0 = (M4, 81) ∧ copyM M4 k p s.dat.length = (M4, 82) := by
  have hso := hk.segs s (List.mem_of_getElem? hs)
  obtain ⟨l, hl⟩ : ∃ l, s.dat[p]? = some l := ⟨_, List.getElem?_eq_getElem hp.2⟩
  have hll := hso.len l (List.mem_of_getElem? hl)
  have e1 := set_of (w := 2) hs hp.2 (by omega)
  rw [if_pos rfl, if_neg (by omega)] at e1
  obtain ⟨M1, hM1⟩ : ∃ M1 : Mm, M1 = ⟨M.ram, M.segs.set k ⟨s.ln, s.dat, s.s0, p⟩⟩ := ⟨_, rfl⟩
  have g1 : M1.segs[k]? = some ⟨s.ln, s.dat, s.s0, p⟩ := by rw [hM1]; exact get_set hs
  rw [← hM1] at e1
  obtain ⟨M2, d, l2, e2, g2, hd, hl2, ht2⟩ : ∃ M2 d l2, writeM M1 2 (k + 1) 0 c = (M2, 0) ∧ M2.segs[k]? = some ⟨s.ln, d, s.s0, p⟩ ∧ d.length = s.dat.length ∧ d[p]? = some l2 ∧ l2.take c.length = c := by
    rw [writeM, if_neg (by omega), area_of (w := 2) g1 (by rw [if_neg (by omega)]; exact hl)]
    dsimp only
    rw [if_neg (by omega)]
    by_cases hc0 : c.length = 0
    · rw [if_pos hc0]
      exact ⟨M1, s.dat, l, rfl, g1, rfl, hl, by rw [List.eq_nil_of_length_eq_zero hc0]; rfl⟩
    · rw [if_neg hc0, if_neg (by simp; omega)]
      refine ⟨_, s.dat.set p (spl l 0 c), spl l 0 c, rfl, ?_, by simp, ?_, by simp [spl]⟩
      · rw [setArea, if_neg (by omega), Nat.add_sub_cancel, g1]
        exact get_set g1
      · rw [List.getElem?_set_self hp.2]
  obtain ⟨M3, e3, g3⟩ : ∃ M3, copyM M2 k p q = (M3, 0) ∧ M3.segs[k]? = some ⟨s.ln, d.set q l2, s.s0, p⟩ := by
    refine ⟨⟨M2.ram, M2.segs.set k ⟨s.ln, d.set q l2, s.s0, p⟩⟩, ?_, get_set g2⟩
    rw [copyM, there_of g2 (fun x hx => by simp at hx; simp only; omega)]
    dsimp only
    rw [if_neg (by omega)]
    simp [List.getD_eq_getElem?_getD, hl2]
  have e4 := set_of (w := ww) (p := q) g3 (by simp; omega) hw
  obtain ⟨M4, hM4⟩ : ∃ M4 : Mm, M4 = ⟨M3.ram, M3.segs.set k ⟨s.ln, d.set q l2, if ww = 2 then s.s0 else q, if ww = 1 then p else q⟩⟩ := ⟨_, rfl⟩
  have g4 : M4.segs[k]? = some ⟨s.ln, d.set q l2, if ww = 2 then s.s0 else q, if ww = 1 then p else q⟩ := by rw [hM4]; exact get_set g3
  rw [← hM4] at e4
  refine ⟨M1, M2, M3, M4, e1, e2, e3, e4, ?_, ?_, ?_, ?_, ?_⟩
  · rw [pageM, if_neg (by omega), if_pos (by omega), Int.toNat_natCast, g4]
    simp [h0]
  · rw [pageM, if_neg (by omega), if_pos (by omega), Int.toNat_natCast, g4]
    simp
  · refine read_of (w := 2) (l := l2) g4 ?_ (.inr rfl) ht2
    show (d.set q l2)[if ww = 1 then p else q]? = some l2
    by_cases h1 : ww = 1
    · rw [if_pos h1]
      by_cases hpq : q = p
      · subst hpq; rw [List.getElem?_set_self (by omega)]
      · rw [List.getElem?_set_ne hpq]; exact hl2
    · rw [if_neg h1, List.getElem?_set_self (by omega)]
  · rw [copyM, there_of g4 (fun x hx => by simp at hx; simp only [List.length_set]; omega)]
    rfl
  · rw [copyM]
    have : thereM M4 (k : Int) [(p : Int), (s.dat.length : Int)] = none := by
      rw [thereM, if_pos (by omega), Int.toNat_natCast, g4]
      simp only [List.all_cons, List.length_set, hd]
      rw [if_neg]
      simp
      omega
    rw [this]
section
variable {P : Program} {S : Nat → Prop} {w0 : World} {env : Env} {hp : List Asn} {d : Option Tmp} {ty : TypeId} {pos : String} {af : Array Edge} {g : Option (Nat × Bool)}
theorem q_eqA2 (T : Tab P) {t yt e : TypeId} {x y : Operand} {k k' : IntKind} {a b a' b' : Int} {z : Value} {by_ : Nat} (hx : ev env x = some (.agg #[.int k a, .int k b])) (hy : ev env y = some (.agg #[.int k a', .int k b'])) (ht : T.u t = some (.array 2 e)) (he : T.u e = some (.int k')) (hz : T.i e = some (z, 1, by_)) (hg : P.eqGuardType P.depth t = false) : Qt P S w0 ⟨d, .binOp .eql t x y yt, ty, pos, af, g⟩ env hp (.bool (a == a' && b == b')) := by
  unfold Qt
  intro n A w hE hS
  have hu := T.U ht
  have hue := T.U he
  have h1 : (Op.equalIn 10000 t (.agg #[.int k a, .int k b]) (.agg #[.int k a', .int k b'])).run P w = .ok (a == a' && b == b') w := by
    rw [show (10000 : Nat) = 9998 + 1 + 1 from rfl, Op.equalIn]
    simp only [Sem.run_bind, run_underlying hu, Result.andThen_ok, T.size hz, Std.Legacy.Range.forIn_eq_forIn_range', Std.Legacy.Range.size, Nat.sub_zero, Nat.add_sub_cancel, Nat.div_one]
    have q0 : ∀ (c0 c1 : Value), (part e #[c0, c1] 0).run P w = .ok c0 w := fun c0 c1 => by simp [part, isAgg, run_underlying hue]
    have q1 : ∀ (c0 c1 : Value), (part e #[c0, c1] 1).run P w = .ok c1 w := fun c0 c1 => by simp [part, isAgg, run_underlying hue]
    have p1 : ∀ a b, (Op.equalIn 9999 e (.int k a) (.int k b)).run P w = .ok (a == b) w := fun a b => run_equalIn_int w 9998 e k k' a b hue
    have e2 : List.range' 0 2 = [0, 1] := rfl
    rw [e2]
    generalize hx' : (a == a') = u
    generalize hy' : (b == b') = u'
    cases u <;> cases u' <;> simp [q0, q1, p1, hx', hy']
  simp [execOp, hE.ev hx, hE.ev hy, run_eqGuard_agg w .eql t x y _ _ hg, run_eql_struct, h1]
theorem q_eqA2t (T : Tab P) {t yt e : TypeId} {x y : Operand} {k k' : IntKind} {a b a' b' : Int} {z : Value} {by_ : Nat} (hx : ev env x = some (.agg #[.int k a, .int k b])) (hy : ev env y = some (.agg #[.int k a', .int k b'])) (ht : T.u t = some (.array 2 e)) (he : T.u e = some (.int k')) (hz : T.i e = some (z, 1, by_)) (hg : P.eqGuardType P.depth t = false) (h1 : a = a') (h2 : b = b') : Qt P S w0 ⟨d, .binOp .eql t x y yt, ty, pos, af, g⟩ env hp (.bool true) := by
  have := q_eqA2 (S := S) (w0 := w0) (hp := hp) (d := d) (ty := ty) (pos := pos) (af := af) (g := g) T (yt := yt) hx hy ht he hz hg
  rw [h1, h2, beq_self_eq_true, beq_self_eq_true] at this
  exact this
end
end Go.Proofs.Ytecnodkjjpjglaa

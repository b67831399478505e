/-
  Arrays of 8 and of 5 bytes, compared.
-/
import Derived.Test.YtidekbijkknlmaaSLi
import Derived.Laws.StructEq
import Derived.Laws.Tables
import Derived.Laws.Cover2
set_option linter.unusedVariables false
set_option maxRecDepth 100000
namespace Go.Proofs.Ytidekbijkknlmaa
open Go.RowKit
section
variable {P : Program} {n : Nat} {S : Nat → Prop} {w0 w : World} {Q : Exit → Act → World → Prop} {ops : Array Oper} {env : Env} {hp hb hz : List Asn} {fuel N e : Nat} {dn : List Nat}
theorem ready_dep {j i : Nat} (hj : j ∈ Region.ready .any ops (lst N dn)) (hd : direct ops j i = true) (h0 : i < N) : dn.any (Nat.beq i) = true := by
  obtain ⟨_, oe, hoe, hall⟩ := mem_ready.1 hj
  unfold direct at hd
  rw [hoe] at hd
  simp only at hd
  obtain ⟨x, hx, hx2⟩ := Array.any_eq_true'.1 hd
  simp only [Bool.and_eq_true, Nat.beq_eq] at hx2
  have := hall x hx hx2.1
  rw [hx2.2] at this
  simp [lst, h0] at this
  exact List.any_eq_true.2 ⟨i, this, Nat.beq_refl i⟩
/-- It comes before operation e, by way of operation k. -/
theorem a_y2 (i k : Nat) {o : Oper} {d : Nat} {v : Value} (hi : ops[i]? = some o) (hni : dn.any (Nat.beq i) = false) (hg : o.guard = none) (hd : o.dst = some d) (hdn : Nat.blt d n = true) (hc : (chk ops N e dn i && direct ops e k && direct ops k i && Nat.blt k N && !(dn.any (Nat.beq e)) && !(dn.any (Nat.beq k))) = true) (hq : Qt P S w0 o env hb v) (h : TA P n S w0 Q ops N e hb hz fuel (i :: dn) ((d, v) :: env) hp) : TA P n S w0 Q ops N e hb hz (fuel + 1) dn env hp := fun hbz hH a w hE hS => by
  simp only [Bool.and_eq_true, Bool.not_eq_true', Nat.blt_eq] at hc
  obtain ⟨⟨⟨⟨⟨c1, c2⟩, c3⟩, c4⟩, c5⟩, c6⟩ := hc
  obtain ⟨h0, hie, h1, h2, h3⟩ := chk_spec c1
  refine wpX_take (v := v) hi h0 hie h1 qn_panic (fun dn' => dn'.any (Nat.beq e) = false ∧ dn'.any (Nat.beq k) = false) (fun dn' j hd' hni' hj hji => ⟨?_, ?_⟩) fuel dn a w h2 h3 hni ⟨c5, c6⟩ (.inl ⟨by simp [Region.wanted, hg], fun w' ⟨dn', _, he, hw'⟩ => hq n a w' hE (by unfold Sx at hw'; rw [he.1] at hw'; exact hw')⟩) (hH w hS) ?_
  · rw [List.any_cons, hd'.1, Bool.or_false]
    by_cases hej : e = j
    · exfalso
      subst hej
      have := ready_dep hj c2 c4
      rw [hd'.2] at this
      cases this
    · exact beq_ne hej
  · rw [List.any_cons, hd'.2, Bool.or_false]
    by_cases hej : k = j
    · exfalso
      subst hej
      have := ready_dep hj c3 h0
      rw [hni'] at this
      cases this
    · exact beq_ne hej
  · rw [hd]
    exact h hbz (sx_cons hie hH) _ w (hE.put hdn v) hS
/-- Its guard itself was not carried out. -/
theorem a_gu (i : Nat) {o : Oper} {d j t : Nat} {want : Bool} (hi : ops[i]? = some o) (hni : dn.any (Nat.beq i) = false) (hg : o.guard = some (j, want)) (hj : (ops[j]?).bind (·.dst) = some t) (hb_ : look env t = some undef) (hd : o.dst = some d) (hdn : Nat.blt d n = true) (hc : chk ops N e dn i = true) (h : TA P n S w0 Q ops N e hb hz fuel (i :: dn) ((d, undef) :: env) hp) : TA P n S w0 Q ops N e hb hz (fuel + 1) dn env hp := fun hbz hH a w hE hS => by
  obtain ⟨h0, hie, h1, h2, h3⟩ := chk_spec hc
  have hy : yielded ops a.tmps j = none := by
    have := hE.at_ t _ hb_
    simp [yielded, hj, this, undef]
  refine wpX_take (v := undef) hi h0 hie h1 qn_panic (fun _ => True) (fun _ _ _ _ _ _ => trivial) fuel dn a w h2 h3 hni trivial (.inr ⟨by simp [Region.wanted, hg, hy], rfl⟩) (hH w hS) ?_
  rw [hd]
  exact h hbz (sx_cons hie hH) _ w (hE.put hdn undef) hS
end
section
variable {P : Program} {S : Nat → Prop} {w0 : World} {env : Env} {hp : List Asn} {d : Option Nat} {ty : TypeId} {pos : String} {af : Array Edge} {g : Option (Nat × Bool)}
/-- A slice of an array, from its head. -/
theorem q_arHi (T : Tab P) {t e : TypeId} {x hi : Operand} {b o n : Nat} {k' : IntKind} {h : Nat} {z : Value} {sz y : Nat} (hx : ev env x = some (.pointer (some ⟨b, o, none⟩))) (hh : ev env hi = some (.int k' (h : Int))) (ht : T.u t = some (.array n e)) (hz : T.i e = some (z, sz, y)) (hb : h ≤ n) (hn : 0 < n) :
    Qt P S w0 ⟨d, .slice t x none (some hi) none, ty, pos, af, g⟩ env hp (.slice (some ⟨b, o, none⟩) h n) := fun m a w hE hS => by
  have h2 : (h : Int) ≤ (n : Int) := by omega
  have h3 : ¬ n = 0 := by omega
  simp [execOp, hE.ev hx, hE.ev hh, Instr.sliceAt, Instr.slice, run_underlying (T.U ht), Instr.sliceBounds, run_sliceBound, h2, h3, T.size hz, Instr.sureAddr, Addr.add_lit]
theorem q_arAll (T : Tab P) {t e : TypeId} {x : Operand} {b o n : Nat} {z : Value} {sz y : Nat} (hx : ev env x = some (.pointer (some ⟨b, o, none⟩))) (ht : T.u t = some (.array n e)) (hz : T.i e = some (z, sz, y)) (hn : 0 < n) :
    Qt P S w0 ⟨d, .slice t x none none none, ty, pos, af, g⟩ env hp (.slice (some ⟨b, o, none⟩) n n) := fun m a w hE hS => by
  have h3 : ¬ n = 0 := by omega
  simp [execOp, hE.ev hx, Instr.sliceAt, Instr.slice, run_underlying (T.U ht), Instr.sliceBounds, run_sliceBound, h3, T.size hz, Instr.sureAddr, Addr.add_lit]
end
theorem t_ret3h {P : Program} {n : Nat} {env : Env} {hp hp' : List Asn} {fn : Func} {w : World} {A : List Asn} {R : Value → List Asn → Prop} {r : ResultVar} {t t' : Nat} {v v' u : Value} (hr : fn.results = #[.tmp t, r, .tmp t']) (hu : look env t = some u) (hv : resOf P env hp (fps A) w r v) (hv' : look env t' = some v') (hH : ∀ w', St (fps A) w hp w' → St (fps A) w hp' w') (h : R (.tuple #[u, v, v']) hp') : TQ n (fps A) w (bodyPost P fn (Ret w A R)) .ret env hp := fun a w' hE hS => by
  refine ⟨hE.defers, _, ?_, _, _, rfl, h, hH w' hS⟩
  have h2 := hE.at_ t' v' hv'
  have h3 := hE.at_ t u hu
  cases r with
  | tmp t => have h1 := hE.at_ t v hv; simp [results, hr, h1, h2, h3]
  | cell q t =>
    obtain ⟨ad, h1, h1'⟩ := hv
    have h1 := hE.at_ q _ h1
    simp [results, hr, h1, asAddr, h1' w' hS, h2, h3]
theorem eqA8 (a b c d e f g h : Int) (w : World) : (Op.equalIn 10000 122 (.agg #[.int .u8 a, .int .u8 b, .int .u8 c, .int .u8 d, .int .u8 e, .int .u8 f, .int .u8 g, .int .u8 h]) (.agg #[.int .u8 a, .int .u8 b, .int .u8 c, .int .u8 d, .int .u8 e, .int .u8 f, .int .u8 g, .int .u8 h])).run Try.prog w = .ok true w := by
  have u3 := Try.underlying5
  have a3 := Try.isAgg5
  have z3 := Try.sizeOf5
  rw [show (10000 : Nat) = 9999 + 1 from rfl, Op.equalIn]
  simp only [Sem.run_bind, run_underlying Try.underlying122, Result.andThen_ok]
  simp only [Std.Legacy.Range.forIn_eq_forIn_range', Std.Legacy.Range.size, Nat.sub_zero, Nat.add_sub_cancel, Nat.div_one, List.range'_succ, List.range'_zero, List.forIn_cons, List.forIn_nil]
  go_simp
theorem eqA5 (a b c d e a' b' c' d' e' : Int) (w : World) : (Op.equalIn 10000 60 (.agg #[.int .u8 a, .int .u8 b, .int .u8 c, .int .u8 d, .int .u8 e]) (.agg #[.int .u8 a', .int .u8 b', .int .u8 c', .int .u8 d', .int .u8 e'])).run Try.prog w = .ok (a == a' && (b == b' && (c == c' && (d == d' && e == e')))) w := by
  have u3 := Try.underlying5
  have a3 := Try.isAgg5
  have z3 := Try.sizeOf5
  rw [show (10000 : Nat) = 9999 + 1 from rfl, Op.equalIn]
  simp only [Sem.run_bind, run_underlying Try.underlying60, Result.andThen_ok]
  simp only [Std.Legacy.Range.forIn_eq_forIn_range', Std.Legacy.Range.size, Nat.sub_zero, Nat.add_sub_cancel, Nat.div_one, List.range'_succ, List.range'_zero, List.forIn_cons, List.forIn_nil]
  go_simp
  by_cases h1 : a = a' <;> by_cases h2 : b = b' <;> by_cases h3 : c = c' <;> by_cases h4 : d = d' <;> by_cases h5 : e = e' <;> simp [h1, h2, h3, h4, h5]
section
variable {n : Nat} {S : Nat → Prop} {w0 w : World} {Q : Exit → Act → World → Prop} {ops : Array Oper} {env : Env} {hp : List Asn}
variable {ty : TypeId} {pos : String} {af : Array Edge} {g : Option (Nat × Bool)}
theorem q_eqA8 {d : Option Nat} {yt : TypeId} {x y : Operand} {b0 b1 b2 b3 b4 b5 b6 b7 : Int} (hx : ev env x = some (.agg #[.int .u8 b0, .int .u8 b1, .int .u8 b2, .int .u8 b3, .int .u8 b4, .int .u8 b5, .int .u8 b6, .int .u8 b7])) (hy : ev env y = some (.agg #[.int .u8 b0, .int .u8 b1, .int .u8 b2, .int .u8 b3, .int .u8 b4, .int .u8 b5, .int .u8 b6, .int .u8 b7])) : Qt Try.prog S w0 ⟨d, .binOp .eql 122 x y yt, ty, pos, af, g⟩ env hp (.bool true) := fun n a1 w hE hS => by
  have h1 := eqA8 b0 b1 b2 b3 b4 b5 b6 b7 w
  have h2 : (eqGuard .eql 122 x y (.agg #[.int .u8 b0, .int .u8 b1, .int .u8 b2, .int .u8 b3, .int .u8 b4, .int .u8 b5, .int .u8 b6, .int .u8 b7]) (.agg #[.int .u8 b0, .int .u8 b1, .int .u8 b2, .int .u8 b3, .int .u8 b4, .int .u8 b5, .int .u8 b6, .int .u8 b7])).run Try.prog w = .ok () w := run_eqGuard_agg _ _ _ _ _ _ _ (by kernel_rfl)
  have h3 := run_eql_struct (P := Try.prog) (w := w) 122 #[.int .u8 b0, .int .u8 b1, .int .u8 b2, .int .u8 b3, .int .u8 b4, .int .u8 b5, .int .u8 b6, .int .u8 b7] #[.int .u8 b0, .int .u8 b1, .int .u8 b2, .int .u8 b3, .int .u8 b4, .int .u8 b5, .int .u8 b6, .int .u8 b7]
  rw [h1] at h3
  simp [execOp, hE.ev hx, hE.ev hy, h2, h3]
theorem q_eqA5 {d : Option Nat} {yt : TypeId} {x y : Operand} {a b c e f a' b' c' e' f' : Int} (hx : ev env x = some (.agg #[.int .u8 a, .int .u8 b, .int .u8 c, .int .u8 e, .int .u8 f])) (hy : ev env y = some (.agg #[.int .u8 a', .int .u8 b', .int .u8 c', .int .u8 e', .int .u8 f'])) : Qt Try.prog S w0 ⟨d, .binOp .eql 60 x y yt, ty, pos, af, g⟩ env hp (.bool (a == a' && (b == b' && (c == c' && (e == e' && f == f'))))) := fun n a1 w hE hS => by
  have h1 := eqA5 a b c e f a' b' c' e' f' w
  have h2 : (eqGuard .eql 60 x y (.agg #[.int .u8 a, .int .u8 b, .int .u8 c, .int .u8 e, .int .u8 f]) (.agg #[.int .u8 a', .int .u8 b', .int .u8 c', .int .u8 e', .int .u8 f'])).run Try.prog w = .ok () w := run_eqGuard_agg _ _ _ _ _ _ _ (by kernel_rfl)
  have h3 := run_eql_struct (P := Try.prog) (w := w) 60 #[.int .u8 a, .int .u8 b, .int .u8 c, .int .u8 e, .int .u8 f] #[.int .u8 a', .int .u8 b', .int .u8 c', .int .u8 e', .int .u8 f']
  rw [h1] at h3
  simp [execOp, hE.ev hx, hE.ev hy, h2, h3]
theorem q_neA5 {d : Option Nat} {yt : TypeId} {x y : Operand} {a b c e f a' b' c' e' f' : Int} (hx : ev env x = some (.agg #[.int .u8 a, .int .u8 b, .int .u8 c, .int .u8 e, .int .u8 f])) (hy : ev env y = some (.agg #[.int .u8 a', .int .u8 b', .int .u8 c', .int .u8 e', .int .u8 f'])) : Qt Try.prog S w0 ⟨d, .binOp .neq 60 x y yt, ty, pos, af, g⟩ env hp (.bool (!(a == a' && (b == b' && (c == c' && (e == e' && f == f')))))) := fun n a1 w hE hS => by
  have h1 := eqA5 a b c e f a' b' c' e' f' w
  have h2 : (eqGuard .neq 60 x y (.agg #[.int .u8 a, .int .u8 b, .int .u8 c, .int .u8 e, .int .u8 f]) (.agg #[.int .u8 a', .int .u8 b', .int .u8 c', .int .u8 e', .int .u8 f'])).run Try.prog w = .ok () w := run_eqGuard_agg _ _ _ _ _ _ _ (by kernel_rfl)
  have h3 := run_neq_struct (P := Try.prog) (w := w) 60 #[.int .u8 a, .int .u8 b, .int .u8 c, .int .u8 e, .int .u8 f] #[.int .u8 a', .int .u8 b', .int .u8 c', .int .u8 e', .int .u8 f']
  rw [h1] at h3
  simp [execOp, hE.ev hx, hE.ev hy, h2, h3]
end
end Go.Proofs.Ytidekbijkknlmaa

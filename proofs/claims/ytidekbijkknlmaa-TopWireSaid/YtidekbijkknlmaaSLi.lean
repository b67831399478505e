/-
  Shifts; cap; append of zeros to nil.
-/
import Derived.Test.YtidekbijkknlmaaSLh
import Derived.Lib.AppendZeros
set_option linter.unusedVariables false
set_option maxRecDepth 100000
namespace Go.Proofs.Ytidekbijkknlmaa
open Go.RowKit
section
variable {P : Program} {n : Nat} {S : Nat → Prop} {w0 w : World} {Q : Exit → Act → World → Prop} {ops : Array Oper} {env : Env} {hp : List Asn}
variable {d : Nat} {ty : TypeId} {pos : String} {af : Array Edge} {g : Option (Nat × Bool)} {K : Act → World → Prop}
theorem q_shr {d : Option Nat} {t yt : TypeId} {x y : Operand} {k k' : IntKind} {m r : Int} {s : Nat} (hx : ev env x = some (.int k m)) (hy : ev env y = some (.int k' (s : Int))) (hr : m.fdiv (2 ^ (min s k.bits)) = r) : Qt P S w0 ⟨d, .binOp .shr t x y yt, ty, pos, af, g⟩ env hp (.int k r) := fun n a w hE hS => by
  have h0 : ¬ ((s : Int) < 0) := by omega
  simp [execOp, hE.ev hx, hE.ev hy, eqGuard, binOp, Op.shift, h0, hr]
theorem q_shl {d : Option Nat} {t yt : TypeId} {x y : Operand} {k k' : IntKind} {m r : Int} {s : Nat} (hx : ev env x = some (.int k m)) (hy : ev env y = some (.int k' (s : Int))) (hr : k.wrap (m * 2 ^ (min s k.bits)) = r) : Qt P S w0 ⟨d, .binOp .shl t x y yt, ty, pos, af, g⟩ env hp (.int k r) := fun n a w hE hS => by
  have h0 : ¬ ((s : Int) < 0) := by omega
  simp [execOp, hE.ev hx, hE.ev hy, eqGuard, binOp, Op.shift, h0, hr]
theorem q_cap (T : Tab P) {t e : TypeId} {d : Option Nat} {x : Operand} {A : Option Addr} {l c : Nat} (hx : ev env x = some (.slice A l c)) (ht : T.u t = some (.slice e)) : Qt P S w0 ⟨d, .call { callee := .builtin .cap, args := #[x], argTypes := #[t] }, ty, pos, af, g⟩ env hp (.int .i64 c) := fun n a w hE hS => by
  simp [execOp, resolve, invoke, builtin, hE.ev hx, Builtin.cap_, run_underlying (T.U ht), goInt]
theorem e_appZ (T : Tab P) {t tn e : TypeId} {x y : Operand} {bytes m : Nat} {z : Value} {kn : IntKind} {k : IntKind} (hd : Nat.blt d n = true) (hx : ev env x = some (.slice none 0 0)) (hy : ev env y = some (.int k m)) (hT : RowT T t e 1 bytes z) (htn : T.u tn = some (.int kn)) (h1 : z.oneCell' = true) (h0 : 0 < m) (h63 : m ≤ maxLen) (hb : m * bytes ≤ 140737488355328)
    (h : ∀ b c, m ≤ c → c ≤ maxLen → TK n S w0 K ((d, .slice (some ⟨b, 0, none⟩) m c) :: env) (row e 1 (.slice (some ⟨b, 0, none⟩) m c) m (List.replicate m z) :: hp)) : TO P n S w0 Q ⟨some d, .call { callee := .builtin .append, args := #[x, y], argTypes := #[t, tn] }, ty, pos, af, g⟩ K env hp := fun a w hE hS => by
  obtain ⟨ht0, hi0, hzs, hsz⟩ := hT
  obtain ⟨i, hi, hz, hsize, hby⟩ := T.I hi0
  have hmx : maxLen = 2 ^ 63 - 1 := rfl
  have hrun := Go.Lib.run_append_nil_zeros (P := P) w t tn ty e i z k kn (T.U ht0) (T.U htn) hi hz m h0 (by omega) (by omega) (by rw [hby]; omega)
  have hge := grownCap_ge w m 0 e
  have hle := grownCap_le_maxLen w m 0 e h63
  have hzc : z.cells = #[z] := by cases z <;> simp [Value.oneCell'] at h1 <;> rfl
  generalize grownCap w m 0 e = c at hrun hge hle
  have hcell : (Builtin.zeroCells z.cells m ++ Builtin.zeroCells z.cells (c - m)) = (List.replicate c z).toArray := by
    have hz1 : ∀ m : Nat, Builtin.zeroCells #[z] m = (List.replicate m z).toArray := fun m => by
      apply Array.toList_inj.1
      simp only [Builtin.zeroCells, Array.toList_map, Array.toList_range]
      have e1 : (#[z] : Array Value).size = 1 := rfl
      simp only [e1, Nat.mod_one, Nat.mul_one]
      rw [List.map_const']
      simp
    rw [hzc, hz1, hz1]
    apply Array.toList_inj.1
    simp only [Array.toList_append]
    rw [List.replicate_append_replicate]
    congr 1
    omega
  have hw : (w.drew.alloc (.cells (Builtin.zeroCells z.cells m ++ Builtin.zeroCells z.cells (c - m)) e)) = (w.drew.alloc (.cells (List.replicate c z).toArray e)) := by rw [hcell]
  have hnew : St S w0 (blk w.heap.size (List.replicate c z) e :: hp) (w.drew.alloc (.cells (List.replicate c z).toArray e)) := st_alloc hS.drew (List.replicate c z) e
  have hrow := hnew.see (i := 0) (Y := row e 1 (.slice (some ⟨w.heap.size, 0, none⟩) m c) m (List.replicate m z)) rfl (fun h => row_of_blk h 1 m c hge hle (by simp) (List.replicate m z) (by simp; omega)) (fun b hb => by injection hb with hb; exact hb.symm)
  have := h w.heap.size c hge hle _ _ (hE.put hd _) hrow
  unfold Oper.wp execOp
  simp only [resolve, invoke, builtin, Sem.run_bind, Sem.run_pure, Result.andThen_ok, List.map_toArray, List.map_cons, List.map_nil, hE.ev hx, hE.ev hy, hrun, hw]
  exact this
end
end Go.Proofs.Ytidekbijkknlmaa

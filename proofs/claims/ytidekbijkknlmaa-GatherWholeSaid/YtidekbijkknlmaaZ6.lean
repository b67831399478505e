/-
  Two arrays of two numbers, compared.
-/
import Derived.Test.YtidekbijkknlmaaSLh
import Derived.Laws.StructEq
import Derived.Laws.Tables
import Derived.Laws.Cover2
set_option linter.unusedVariables false
set_option maxRecDepth 100000
namespace Go.Proofs.Ytidekbijkknlmaa
open Go.RowKit
theorem eqA2 (a b c d : Int) (w : World) : (Op.equalIn 10000 42 (.agg #[.int .i64 a, .int .i64 b]) (.agg #[.int .i64 c, .int .i64 d])).run Try.prog w = .ok (a == c && b == d) w := by
  have u3 := Try.underlying3
  have a3 := Try.isAgg3
  have z3 := Try.sizeOf3
  rw [show (10000 : Nat) = 9999 + 1 from rfl, Op.equalIn]
  simp only [Sem.run_bind, run_underlying Try.underlying42, Result.andThen_ok]
  simp only [Std.Legacy.Range.forIn_eq_forIn_range', Std.Legacy.Range.size, Nat.sub_zero, Nat.add_sub_cancel, Nat.div_one, List.range'_succ, List.range'_zero, List.forIn_cons, List.forIn_nil]
  go_simp
  by_cases h1 : a = c <;> by_cases h2 : b = d <;> simp [h1, h2]
section
variable {n : Nat} {S : Nat → Prop} {w0 w : World} {Q : Exit → Act → World → Prop} {ops : Array Oper} {env : Env} {hp : List Asn}
variable {ty : TypeId} {pos : String} {af : Array Edge} {g : Option (Nat × Bool)}
theorem q_eqA2 {d : Option Nat} {yt : TypeId} {x y : Operand} {a b a' b' : Int} (hx : ev env x = some (.agg #[.int .i64 a, .int .i64 b])) (hy : ev env y = some (.agg #[.int .i64 a', .int .i64 b'])) : Qt Try.prog S w0 ⟨d, .binOp .eql 42 x y yt, ty, pos, af, g⟩ env hp (.bool (a == a' && b == b')) := fun n a1 w hE hS => by
  have h1 := eqA2 a b a' b' w
  have h2 : (eqGuard .eql 42 x y (.agg #[.int .i64 a, .int .i64 b]) (.agg #[.int .i64 a', .int .i64 b'])).run Try.prog w = .ok () w := run_eqGuard_agg _ _ _ _ _ _ _ (by kernel_rfl)
  have h3 := run_eql_struct (P := Try.prog) (w := w) 42 #[.int .i64 a, .int .i64 b] #[.int .i64 a', .int .i64 b']
  rw [h1] at h3
  simp [execOp, hE.ev hx, hE.ev hy, h2, h3]
end
end Go.Proofs.Ytidekbijkknlmaa

/-
  Four results.
-/
import Derived.Test.YtidekbijkknlmaaSLj
set_option linter.unusedVariables false
set_option maxRecDepth 100000
namespace Go.Proofs.Ytidekbijkknlmaa
open Go.RowKit
theorem t_ret4 {P : Program} {n : Nat} {env : Env} {hp : List Asn} {fn : Func} {w : World} {A : List Asn} {R : Value → List Asn → Prop} {t1 t2 t3 t4 : Nat} {v1 v2 v3 v4 : Value} (hr : fn.results = #[.tmp t1, .tmp t2, .tmp t3, .tmp t4]) (h1 : look env t1 = some v1) (h2 : look env t2 = some v2) (h3 : look env t3 = some v3) (h4 : look env t4 = some v4) (h : R (.tuple #[v1, v2, v3, v4]) hp) : TQ n (fps A) w (bodyPost P fn (Ret w A R)) .ret env hp := fun a w' hE hS => by
  refine ⟨hE.defers, _, ?_, _, _, rfl, h, hS⟩
  have e1 := hE.at_ t1 v1 h1
  have e2 := hE.at_ t2 v2 h2
  have e3 := hE.at_ t3 v3 h3
  have e4 := hE.at_ t4 v4 h4
  simp [results, hr, e1, e2, e3, e4]
end Go.Proofs.Ytidekbijkknlmaa

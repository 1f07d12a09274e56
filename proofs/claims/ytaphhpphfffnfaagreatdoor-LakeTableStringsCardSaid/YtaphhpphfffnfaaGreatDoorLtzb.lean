/- Contracts: the reference's pairs, steps and runs; copies. No condition. -/
import Derived.Test.YtaphhpphfffnfaaGreatDoorLtza
set_option linter.unusedSimpArgs false
namespace Go.DI
open Go.Proofs Go.RowKit Lk

theorem r_Copy {l : List Kn} (hl : l.length ≤ 1000000000) : Contract Tryz.prog 28 [tabI l] (tabI l) := by
  refine contract_run Tryz.func28 k28 rfl ?_
  simp only [body28, b28, res28, lkE, ↓reduceIte, reduceCtorEq, Nat.reduceEqDiff, Nat.reduceAdd, Nat.reduceMul, Nat.reduceSub, Nat.reduceLeDiff, Nat.reduceBEq, Int.reduceToNat, Int.reduceLE, Int.reduceLT, Int.reduceEq, Int.reduceNe, di]
  omega
end Go.DI


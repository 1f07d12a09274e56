/- The statement WaveTicks, as a contract. No condition. -/
import Derived.Test.YtadmimjaelodkaaWfb
set_option linter.unusedSimpArgs false
set_option maxRecDepth 100000
namespace Go.DI
open Go.Proofs Go.RowKit

theorem l_fewCells {s : Ws} : Contract Try.prog 19 [wsI s] (.bool (decide (s.F.length ≤ 30 ∧ s.B.length ≤ 30 ∧ s.L.length ≤ 10))) := by
  refine contract_run Try.func19 k19 rfl ?_
  simp only [body19, b19, res19, vaE, ↓reduceIte, reduceCtorEq, Nat.reduceEqDiff, Nat.reduceAdd, Nat.reduceMul, Nat.reduceSub, Nat.reduceLeDiff, Nat.reduceBEq, Int.reduceToNat, Int.reduceLE, Int.reduceLT, Int.reduceEq, Int.reduceNe, di]
  by_cases h1 : (s.F.length : Int) ≤ 30 ∧ (s.B.length : Int) ≤ 30
  · rw [if_pos h1]
    congr 2
    rw [decide_eq_decide]
    omega
  · rw [if_neg h1, decide_eq_false (by omega)]
end Go.DI


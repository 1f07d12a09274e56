/- Contracts of the base's small functions. No condition. -/
import Derived.Test.YtaphhpphfffnfaaGreatDoorLfc
import Derived.IntWalk
set_option linter.unusedSimpArgs false
namespace Go.DI
open Go.Proofs Go.RowKit

theorem wrap64 {n : Int} (h1 : -9223372036854775808 ≤ n) (h2 : n ≤ 9223372036854775807) : IntKind.wrap .i64 n = n := IntWalk.i64_in n ⟨h1, h2⟩

theorem c_Within {x lo hi : Int} : Contract Tryz.prog 47 [.int .i64 x, .int .i64 lo, .int .i64 hi] (.bool (decide (lo ≤ x ∧ x ≤ hi))) := by
  refine contract_run Tryz.func47 k47 rfl ?_
  simp only [body47, b47, res47, ↓reduceIte, reduceCtorEq, Nat.reduceEqDiff, Nat.reduceAdd, Nat.reduceMul, Nat.reduceSub, Nat.reduceLeDiff, Nat.reduceBEq, Int.reduceToNat, Int.reduceLE, Int.reduceLT, Int.reduceEq, Int.reduceNe, di]
  split
  · rename_i h; simp [h]
  · rename_i h; simp [h]

end Go.DI


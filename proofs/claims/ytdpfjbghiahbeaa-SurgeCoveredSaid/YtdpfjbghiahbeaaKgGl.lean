/- Contracts of the reference: runs. No condition. -/
import Derived.Test.YtdpfjbghiahbeaaKgGj
import Derived.Test.YtdpfjbghiahbeaaKgGk
/- The reference's functions of runs, and the law of runs, as data. No condition. -/
namespace Go.DI
open Go.Proofs Go.RowKit
/-- guidevane/guidevanebase.CopyInts -/
def b43 : DCode :=
 (.seq
  (.region [⟨(some 2), .mov, [.c (.slc 1 [])], none, []⟩] false)
  (.seq
   (.region [⟨(some 3), (.bsl 1), [], none, []⟩,
     ⟨(some 4), .movv, [.t 0], none, []⟩,
     ⟨(some 5), (.append 1 8 false), [.t 3, .t 4], none, [0, 1]⟩,
     ⟨(some 2), .movv, [.t 5], none, [2, 2, 0, 1, 2]⟩] false)
   .ret))
def d43 : DFn := ⟨1, 6, [.tmp 2], b43⟩
theorem body43 : d43.body = b43 := rfl
theorem res43 : d43.res = [.tmp 2] := rfl
theorem k43 : chkFn Try.prog Try.f43 d43 = true := by kernel_rfl

end Go.DI

/- Contracts: the reference's runs. No condition. -/
set_option linter.unusedSimpArgs false
namespace Go.DI
open Go.Proofs Go.RowKit Sg

theorem c_CopyInts {a : List Int} (ha : a.length ≤ 1000000000000) : Contract Try.prog 43 [.slc 1 (a.map (.int .i64))] (.slc 1 (a.map (.int .i64))) := by
  refine contract_run Try.func43 k43 rfl ?_
  simp only [body43, b43, res43, ↓reduceIte, reduceCtorEq, Nat.reduceEqDiff, Nat.reduceAdd, Nat.reduceMul, Nat.reduceSub, Nat.reduceLeDiff, Nat.reduceBEq, Int.reduceToNat, Int.reduceLE, Int.reduceLT, Int.reduceEq, Int.reduceNe, di0, di1, di2, di3, di4, di5, di6, di7, di8, di9, postX_ret, postX_normal, ex_some]
  omega

end Go.DI


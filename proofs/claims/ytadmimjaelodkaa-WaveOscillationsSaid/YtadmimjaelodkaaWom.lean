/- The statement WaveResonant, as a contract. No condition. -/
import Derived.Test.YtadmimjaelodkaaWob
import Derived.Test.YtadmimjaelodkaaWol
import Derived.Test.YtadmimjaelodkaaWof
set_option linter.unusedSimpArgs false
set_option maxRecDepth 100000
namespace Go.DI
open Go.Proofs Go.RowKit

theorem c_GSub {u v : Ga} (hu : GB 1000000000000000 u) (hv : GB 1000000000000000 v) : Contract Try.prog 52 [gI u, gI v] (gI (gsub u v)) := by
 have h1 := hu.1; have h2 := hu.2; have h3 := hv.1; have h4 := hv.2
 refine contract_run Try.func52 k52 rfl ?_
 simp only [body52, b52, res52, gI, vaE, ↓reduceIte, reduceCtorEq, Nat.reduceEqDiff, Nat.reduceAdd, Nat.reduceMul, Nat.reduceSub, Nat.reduceLeDiff, Nat.reduceBEq, Int.reduceToNat, Int.reduceLE, Int.reduceLT, Int.reduceEq, Int.reduceNe, di]
 rw [wrap64 (n := u.1 - v.1) (by omega) (by omega), wrap64 (n := u.2 - v.2) (by omega) (by omega)]
 rfl
theorem r_QuarterErr {h : Int} : Contract Try.prog 47 [.int .i64 h] (.int .i64 (quarterE h)) := by
 refine contract_run Try.func47 k47 rfl ?_
 simp only [body47, b47, res47, b47k0, vaE, ↓reduceIte, reduceCtorEq, Nat.reduceEqDiff, Nat.reduceAdd, Nat.reduceMul, Nat.reduceSub, Nat.reduceLeDiff, Nat.reduceBEq, Int.reduceToNat, Int.reduceLE, Int.reduceLT, Int.reduceEq, Int.reduceNe, di]
 refine calls_of c_Within ?_; simp only [vaE, res47, b47k0, ↓reduceIte, reduceCtorEq, Nat.reduceEqDiff, Nat.reduceAdd, Nat.reduceMul, Nat.reduceSub, Nat.reduceLeDiff, Nat.reduceBEq, Int.reduceToNat, Int.reduceLE, Int.reduceLT, Int.reduceEq, Int.reduceNe, di]
 unfold quarterE
 split <;> rfl
end Go.DI


/- Contracts: whole numbers: divisors, fractions, slices. No condition. -/
import Derived.Test.YtaphhpphfffnfaaGreatDoorTkj
set_option linter.unusedSimpArgs false
namespace Go.DI
open Go.Proofs Go.RowKit
theorem eq_of_getD {α:Type} (d : α):∀ {a b:List α},a.length=b.length→(∀ i,i<a.length→a.getD i d=b.getD i d)→a=b
  | [],[],_,_=>rfl
  | [],_ :: _,h,_=>by cases h
  | _ :: _,[],h,_=>by cases h
  | x :: a,y :: b,h,k=>by
    have h0:x=y:=by simpa using k 0 (by simp)
    rw [h0,eq_of_getD d (a:=a) (b:=b) (by simpa using h) (fun i hi=>by have:=k (i+1) (by simpa using hi); simpa using this)]
theorem c_CopyInts {a:List Int} (ha:a.length≤1000000000000):Contract Tryz.prog 52 [.slc 1 (a.map (.int .i64))] (.slc 1 (a.map (.int .i64))):=by
  refine contract_run Tryz.func52 k52 rfl ?_
  simp only [body52,b52,res52, ↓reduceIte,reduceCtorEq,Nat.reduceEqDiff,Nat.reduceAdd,Nat.reduceMul,Nat.reduceSub,Nat.reduceLeDiff,Nat.reduceBEq,Int.reduceToNat,Int.reduceLE,Int.reduceLT,Int.reduceEq,Int.reduceNe,di]
  omega
end Go.DI


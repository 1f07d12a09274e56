/- The statement SurgeEnclosed, as a contract. No condition. -/
import Derived.Test.YtaphhpphfffnfaaGreatDoorTwGk
import Derived.Test.YtaphhpphfffnfaaGreatDoorTwd
set_option linter.unusedSimpArgs false
set_option maxRecDepth 20000
namespace Go.DI
open Go.Proofs Go.RowKit Sg
def rngE (lo hi m:Int):Int:=if Wi lo (-m) m∧Wi hi (-m) m then (if hi<lo then 9 else 0) else 2
theorem r_rangeErr {lo hi m:Int} (hm : 0≤m∧m≤1000000):Contract Tryz.prog 228 [stI lo hi,.int .i64 m] (.int .i64 (rngE lo hi m)):=by
 unfold rngE
 refine contract_run Tryz.func228 k228 rfl ?_
 simp only [body228,b228,res228,b228k0,b228k1,ruI,ssI,sbI,spI,swI,scI,stI,srI,saI,snI, ↓reduceIte,reduceCtorEq,Nat.reduceEqDiff,Nat.reduceAdd,Nat.reduceMul,Nat.reduceSub,Nat.reduceLeDiff,Nat.reduceBEq,Int.reduceToNat,Int.reduceLE,Int.reduceLT,Int.reduceEq,Int.reduceNe,di]
 simp only [show IntKind.wrap .i64 (0 - m) = -m by rw [Int.zero_sub]; exact wrap64 (by omega) (by omega)]
 refine calls_of c_Wi ?_; simp only [ruI,ssI,sbI,spI,swI,scI,stI,srI,saI,snI,res228,b228k0,b228k1, ↓reduceIte,reduceCtorEq,Nat.reduceEqDiff,Nat.reduceAdd,Nat.reduceMul,Nat.reduceSub,Nat.reduceLeDiff,Nat.reduceBEq,Int.reduceToNat,Int.reduceLE,Int.reduceLT,Int.reduceEq,Int.reduceNe,di]
 by_cases h1:Wi lo (-m) m
 case neg=>simp only [h1,false_and,decide_false,ruI,ssI,sbI,spI,swI,scI,stI,srI,saI,snI, ↓reduceIte,reduceCtorEq,Nat.reduceEqDiff,Nat.reduceAdd,Nat.reduceMul,Nat.reduceSub,Nat.reduceLeDiff,Nat.reduceBEq,Int.reduceToNat,Int.reduceLE,Int.reduceLT,Int.reduceEq,Int.reduceNe,di]
 simp only [h1,decide_true,ruI,ssI,sbI,spI,swI,scI,stI,srI,saI,snI, ↓reduceIte,reduceCtorEq,Nat.reduceEqDiff,Nat.reduceAdd,Nat.reduceMul,Nat.reduceSub,Nat.reduceLeDiff,Nat.reduceBEq,Int.reduceToNat,Int.reduceLE,Int.reduceLT,Int.reduceEq,Int.reduceNe,di]
 simp only [show IntKind.wrap .i64 (0 - m) = -m by rw [Int.zero_sub]; exact wrap64 (by omega) (by omega)]
 refine calls_of c_Wi ?_; simp only [ruI,ssI,sbI,spI,swI,scI,stI,srI,saI,snI,res228,b228k0,b228k1, ↓reduceIte,reduceCtorEq,Nat.reduceEqDiff,Nat.reduceAdd,Nat.reduceMul,Nat.reduceSub,Nat.reduceLeDiff,Nat.reduceBEq,Int.reduceToNat,Int.reduceLE,Int.reduceLT,Int.reduceEq,Int.reduceNe,di]
 by_cases h2:Wi hi (-m) m
 case neg=>simp only [h2,and_false,decide_false,ruI,ssI,sbI,spI,swI,scI,stI,srI,saI,snI, ↓reduceIte,reduceCtorEq,Nat.reduceEqDiff,Nat.reduceAdd,Nat.reduceMul,Nat.reduceSub,Nat.reduceLeDiff,Nat.reduceBEq,Int.reduceToNat,Int.reduceLE,Int.reduceLT,Int.reduceEq,Int.reduceNe,di]
 simp only [h2,decide_true,and_self,ruI,ssI,sbI,spI,swI,scI,stI,srI,saI,snI, ↓reduceIte,reduceCtorEq,Nat.reduceEqDiff,Nat.reduceAdd,Nat.reduceMul,Nat.reduceSub,Nat.reduceLeDiff,Nat.reduceBEq,Int.reduceToNat,Int.reduceLE,Int.reduceLT,Int.reduceEq,Int.reduceNe,di]
 try split <;> rfl
theorem r_BoxErr {b:Bx}:Contract Tryz.prog 157 [sbI b] (.int .i64 (boxErr b)):=by
 refine contract_run Tryz.func157 k157 rfl ?_
 simp only [body157,b157,res157,b157k0,ruI,ssI,sbI,spI,swI,scI,stI,srI,saI,snI, ↓reduceIte,reduceCtorEq,Nat.reduceEqDiff,Nat.reduceAdd,Nat.reduceMul,Nat.reduceSub,Nat.reduceLeDiff,Nat.reduceBEq,Int.reduceToNat,Int.reduceLE,Int.reduceLT,Int.reduceEq,Int.reduceNe,di]
 refine calls_of (r_rangeErr (lo:=b.ll) (hi:=b.lh) (m:=100000) (by omega)) ?_; simp only [ruI,ssI,sbI,spI,swI,scI,stI,srI,saI,snI,res157,b157k0, ↓reduceIte,reduceCtorEq,Nat.reduceEqDiff,Nat.reduceAdd,Nat.reduceMul,Nat.reduceSub,Nat.reduceLeDiff,Nat.reduceBEq,Int.reduceToNat,Int.reduceLE,Int.reduceLT,Int.reduceEq,Int.reduceNe,di]
 have e:boxErr b=if rngE b.ll b.lh 100000=0 then rngE b.fl b.fh 1000 else rngE b.ll b.lh 100000:=by
  unfold boxErr rngE
  by_cases h1:Wi b.ll (-100000) 100000∧Wi b.lh (-100000) 100000
  ·rw [if_neg (fun k=>k h1),if_pos h1]
   by_cases h2:b.lh<b.ll
   ·rw [if_pos h2,if_pos h2,if_neg (by decide)]
   ·rw [if_neg h2,if_neg h2,if_pos rfl]
    by_cases h3:Wi b.fl (-1000) 1000∧Wi b.fh (-1000) 1000
    ·rw [if_neg (fun k=>k h3),if_pos h3]
    ·rw [if_pos h3,if_neg h3]
  ·rw [if_pos h1,if_neg h1,if_neg (by decide)]
 rw [e]
 split
 ·refine calls_of (r_rangeErr (lo:=b.fl) (hi:=b.fh) (m:=1000) (by omega)) ?_; simp only [ruI,ssI,sbI,spI,swI,scI,stI,srI,saI,snI,res157,b157k0, ↓reduceIte,reduceCtorEq,Nat.reduceEqDiff,Nat.reduceAdd,Nat.reduceMul,Nat.reduceSub,Nat.reduceLeDiff,Nat.reduceBEq,Int.reduceToNat,Int.reduceLE,Int.reduceLT,Int.reduceEq,Int.reduceNe,di]
 ·rfl
end Go.DI


/- Contracts: states that boxes do not cover, of the program and of the reference. No condition. -/
import Derived.Test.YtaphhpphfffnfaaGreatDoorTwp
set_option linter.unusedSimpArgs false
set_option maxRecDepth 20000
namespace Go.DI
open Go.Proofs Go.RowKit Sg
theorem s_CoverOf {r:Ru} {v:Cv}:Contract Tryz.prog 71 [ruI r,scI v] (if fstE (rulesErr r) (coverE v)=0 then .tup [.slc 4 ((coverL v).map sbI),.int .i64 0] else .tup [.slc 4 [],.int .i64 (fstE (rulesErr r) (coverE v))]):=by
 refine contract_run Tryz.func71 k71 rfl ?_
 simp only [body71,b71,res71,b71k0,ruI,ssI,sbI,spI,swI,scI,stI,srI,saI,snI, ↓reduceIte,reduceCtorEq,Nat.reduceEqDiff,Nat.reduceAdd,Nat.reduceMul,Nat.reduceSub,Nat.reduceLeDiff,Nat.reduceBEq,Int.reduceToNat,Int.reduceLE,Int.reduceLT,Int.reduceEq,Int.reduceNe,di]
 refine calls_of s_CheckRules ?_; simp only [ruI,ssI,sbI,spI,swI,scI,stI,srI,saI,snI,res71,b71k0, ↓reduceIte,reduceCtorEq,Nat.reduceEqDiff,Nat.reduceAdd,Nat.reduceMul,Nat.reduceSub,Nat.reduceLeDiff,Nat.reduceBEq,Int.reduceToNat,Int.reduceLE,Int.reduceLT,Int.reduceEq,Int.reduceNe,di]
 refine calls_of s_coverErr ?_; simp only [ruI,ssI,sbI,spI,swI,scI,stI,srI,saI,snI,res71,b71k0, ↓reduceIte,reduceCtorEq,Nat.reduceEqDiff,Nat.reduceAdd,Nat.reduceMul,Nat.reduceSub,Nat.reduceLeDiff,Nat.reduceBEq,Int.reduceToNat,Int.reduceLE,Int.reduceLT,Int.reduceEq,Int.reduceNe,di]
 refine calls_of (s_first (l:=[rulesErr r,coverE v]) (by simp)) ?_; simp only [ruI,ssI,sbI,spI,swI,scI,stI,srI,saI,snI,res71,b71k0, ↓reduceIte,reduceCtorEq,Nat.reduceEqDiff,Nat.reduceAdd,Nat.reduceMul,Nat.reduceSub,Nat.reduceLeDiff,Nat.reduceBEq,Int.reduceToNat,Int.reduceLE,Int.reduceLT,Int.reduceEq,Int.reduceNe,di]
 rw [firstNZ_two]
 by_cases h:fstE (rulesErr r) (coverE v)=0
 ·simp only [h,ruI,ssI,sbI,spI,swI,scI,stI,srI,saI,snI, ↓reduceIte,reduceCtorEq,Nat.reduceEqDiff,Nat.reduceAdd,Nat.reduceMul,Nat.reduceSub,Nat.reduceLeDiff,Nat.reduceBEq,Int.reduceToNat,Int.reduceLE,Int.reduceLT,Int.reduceEq,Int.reduceNe,di]
  rw [fstE_zero] at h
  refine calls_of (s_cover h.2) ?_; simp only [ruI,ssI,sbI,spI,swI,scI,stI,srI,saI,snI,res71,b71k0, ↓reduceIte,reduceCtorEq,Nat.reduceEqDiff,Nat.reduceAdd,Nat.reduceMul,Nat.reduceSub,Nat.reduceLeDiff,Nat.reduceBEq,Int.reduceToNat,Int.reduceLE,Int.reduceLT,Int.reduceEq,Int.reduceNe,di]
 ·simp only [h,ruI,ssI,sbI,spI,swI,scI,stI,srI,saI,snI, ↓reduceIte,reduceCtorEq,Nat.reduceEqDiff,Nat.reduceAdd,Nat.reduceMul,Nat.reduceSub,Nat.reduceLeDiff,Nat.reduceBEq,Int.reduceToNat,Int.reduceLE,Int.reduceLT,Int.reduceEq,Int.reduceNe,di]
def inB (b:Bx) (s:Sta):Bool:=decide (Wi s.L b.ll b.lh∧Wi s.F b.fl b.fh)
def covd (bs:List Bx) (s:Sta):Bool:=bs.any fun b=>inB b s
def flowsF (L:Int):Int→Nat→List Sta
 | _,0=>[]
 | F,n+1=>⟨L,F⟩ :: flowsF L (F+1) n
def levelsF (fl:Int) (nf:Nat):Int→Nat→List Sta
 | _,0=>[]
 | L,n+1=>flowsF L fl nf ++ levelsF fl nf (L+1) n
def statesB (b:Bx):List Sta:=levelsF b.fl (b.fh - b.fl+1).toNat b.ll (b.lh - b.ll+1).toNat
def uncP (b:Bx) (bs:List Bx):Option Sta:=(statesB b).find? fun s => !covd bs s
def countB (b:Bx):Int:=(b.lh - b.ll+1) * (b.fh - b.fl+1)
theorem count_bd {b:Bx} (h:boxErr b=0) : 0≤countB b∧countB b≤400202001:=by
 rw [boxErr_zero] at h
 unfold countB
 refine ⟨Int.mul_nonneg (by omega) (by omega),?_⟩
 have:(b.lh - b.ll+1) * (b.fh - b.fl+1)≤200001 * 2001:=Int.mul_le_mul (by omega) (by omega) (by omega) (by omega)
 omega
end Go.DI


/- Contracts: witnesses, of the program and of the reference. No condition. -/
import Derived.Test.YtaphhpphfffnfaaGreatDoorTwj
import Derived.Test.YtaphhpphfffnfaaGreatDoorTwl
set_option linter.unusedSimpArgs false
set_option maxRecDepth 20000
namespace Go.DI
open Go.Proofs Go.RowKit Sg
theorem loads_ne {p:Pl} {o:List Int} (hp:PlanOk p):loadsP p o ≠ []:=by
 intro h
 have h1:=loadsF_length (p:=p) (o:=o) p.ticks.toNat 0 p.load
 have h2:=hp.ticks
 unfold loadsP at h
 rw [h] at h1
 simp at h1
 omega
def witE (r:Ru) (p:Pl) (w:Wt):Int :=
 fstE (orderE p w.ord) (fstE (stateErr w.st) (fstE (fricErr r w.k) (if highL r w.st (loadsP p w.ord) w.k=w.lev then 0 else 19)))
def chkW (r:Ru) (p:Pl) (w:Wt):Int:=fstE (planEr r p).2 (witE r p w)
theorem s_CheckWitness {r:Ru} {p:Pl} {w:Wt} (hl:p.ch.length≤1000000000):Contract Tryz.prog 84 [ruI r,spI p,swI w] (.int .i64 (chkW r p w)):=by
 refine contract_run Tryz.func84 k84 rfl ?_
 simp only [body84,b84,res84,b84k0,b84k1,ruI,ssI,sbI,spI,swI,scI,stI,srI,saI,snI, ↓reduceIte,reduceCtorEq,Nat.reduceEqDiff,Nat.reduceAdd,Nat.reduceMul,Nat.reduceSub,Nat.reduceLeDiff,Nat.reduceBEq,Int.reduceToNat,Int.reduceLE,Int.reduceLT,Int.reduceEq,Int.reduceNe,di]
 refine calls_of (s_open hl) ?_; simp only [ruI,ssI,sbI,spI,swI,scI,stI,srI,saI,snI,res84,b84k0,b84k1, ↓reduceIte,reduceCtorEq,Nat.reduceEqDiff,Nat.reduceAdd,Nat.reduceMul,Nat.reduceSub,Nat.reduceLeDiff,Nat.reduceBEq,Int.reduceToNat,Int.reduceLE,Int.reduceLT,Int.reduceEq,Int.reduceNe,di]
 unfold chkW fstE
 by_cases hE:(planEr r p).2=0
 case neg =>
  simp only [hE,ruI,ssI,sbI,spI,swI,scI,stI,srI,saI,snI, ↓reduceIte,reduceCtorEq,Nat.reduceEqDiff,Nat.reduceAdd,Nat.reduceMul,Nat.reduceSub,Nat.reduceLeDiff,Nat.reduceBEq,Int.reduceToNat,Int.reduceLE,Int.reduceLT,Int.reduceEq,Int.reduceNe,di]
 obtain ⟨hr,hp⟩:=planEr_zero.1 hE
 simp only [hE,ruI,ssI,sbI,spI,swI,scI,stI,srI,saI,snI, ↓reduceIte,reduceCtorEq,Nat.reduceEqDiff,Nat.reduceAdd,Nat.reduceMul,Nat.reduceSub,Nat.reduceLeDiff,Nat.reduceBEq,Int.reduceToNat,Int.reduceLE,Int.reduceLT,Int.reduceEq,Int.reduceNe,di]
 refine calls_of (s_orderErr hp) ?_; simp only [ruI,ssI,sbI,spI,swI,scI,stI,srI,saI,snI,res84,b84k0,b84k1, ↓reduceIte,reduceCtorEq,Nat.reduceEqDiff,Nat.reduceAdd,Nat.reduceMul,Nat.reduceSub,Nat.reduceLeDiff,Nat.reduceBEq,Int.reduceToNat,Int.reduceLE,Int.reduceLT,Int.reduceEq,Int.reduceNe,di]
 refine calls_of s_stateErr ?_; simp only [ruI,ssI,sbI,spI,swI,scI,stI,srI,saI,snI,res84,b84k0,b84k1, ↓reduceIte,reduceCtorEq,Nat.reduceEqDiff,Nat.reduceAdd,Nat.reduceMul,Nat.reduceSub,Nat.reduceLeDiff,Nat.reduceBEq,Int.reduceToNat,Int.reduceLE,Int.reduceLT,Int.reduceEq,Int.reduceNe,di]
 refine calls_of s_fricErr ?_; simp only [ruI,ssI,sbI,spI,swI,scI,stI,srI,saI,snI,res84,b84k0,b84k1, ↓reduceIte,reduceCtorEq,Nat.reduceEqDiff,Nat.reduceAdd,Nat.reduceMul,Nat.reduceSub,Nat.reduceLeDiff,Nat.reduceBEq,Int.reduceToNat,Int.reduceLE,Int.reduceLT,Int.reduceEq,Int.reduceNe,di]
 refine calls_of (s_first (l:=[orderE p w.ord,stateErr w.st,fricErr r w.k]) (by simp)) ?_; simp only [ruI,ssI,sbI,spI,swI,scI,stI,srI,saI,snI,res84,b84k0,b84k1, ↓reduceIte,reduceCtorEq,Nat.reduceEqDiff,Nat.reduceAdd,Nat.reduceMul,Nat.reduceSub,Nat.reduceLeDiff,Nat.reduceBEq,Int.reduceToNat,Int.reduceLE,Int.reduceLT,Int.reduceEq,Int.reduceNe,di]
 rw [firstNZ_three]
 unfold witE
 by_cases h:fstE (orderE p w.ord) (fstE (stateErr w.st) (fricErr r w.k))=0
 case neg =>
  simp only [h,ruI,ssI,sbI,spI,swI,scI,stI,srI,saI,snI, ↓reduceIte,reduceCtorEq,Nat.reduceEqDiff,Nat.reduceAdd,Nat.reduceMul,Nat.reduceSub,Nat.reduceLeDiff,Nat.reduceBEq,Int.reduceToNat,Int.reduceLE,Int.reduceLT,Int.reduceEq,Int.reduceNe,di]
  unfold fstE at h ⊢
  congr 2
  by_cases h1:orderE p w.ord=0
  ·rw [if_pos h1,if_pos h1] at *
   by_cases h2:stateErr w.st=0
   ·rw [if_pos h2,if_pos h2] at *
    rw [if_neg h]
   ·rw [if_neg h2,if_neg h2]
  ·rw [if_neg h1,if_neg h1]
 simp only [h,ruI,ssI,sbI,spI,swI,scI,stI,srI,saI,snI, ↓reduceIte,reduceCtorEq,Nat.reduceEqDiff,Nat.reduceAdd,Nat.reduceMul,Nat.reduceSub,Nat.reduceLeDiff,Nat.reduceBEq,Int.reduceToNat,Int.reduceLE,Int.reduceLT,Int.reduceEq,Int.reduceNe,di]
 rw [fstE_zero,fstE_zero] at h
 obtain ⟨h1,h2,h3⟩:=h
 obtain ⟨k1,k2,k3⟩:=orderE_zero h1
 have hix:=orderE_idx hp k1 k2
 have hst:=stateErr_zero.1 h2
 have hk:=fricErr_zero.1 h3
 have g1:=hr.lo; have g2:=hr.hi
 refine calls_of (s_loads (r:=r) hp hix) ?_; simp only [ruI,ssI,sbI,spI,swI,scI,stI,srI,saI,snI,res84,b84k0,b84k1, ↓reduceIte,reduceCtorEq,Nat.reduceEqDiff,Nat.reduceAdd,Nat.reduceMul,Nat.reduceSub,Nat.reduceLeDiff,Nat.reduceBEq,Int.reduceToNat,Int.reduceLE,Int.reduceLT,Int.reduceEq,Int.reduceNe,di]
 refine calls_of (s_highest (s:=w.st) (k:=w.k) hr (by omega) (loads_ok hp k3) (by omega) (loads_ne hp)) ?_; simp only [ruI,ssI,sbI,spI,swI,scI,stI,srI,saI,snI,res84,b84k0,b84k1, ↓reduceIte,reduceCtorEq,Nat.reduceEqDiff,Nat.reduceAdd,Nat.reduceMul,Nat.reduceSub,Nat.reduceLeDiff,Nat.reduceBEq,Int.reduceToNat,Int.reduceLE,Int.reduceLT,Int.reduceEq,Int.reduceNe,di]
 refine calls_of s_unless ?_; simp only [ruI,ssI,sbI,spI,swI,scI,stI,srI,saI,snI,res84,b84k0,b84k1, ↓reduceIte,reduceCtorEq,Nat.reduceEqDiff,Nat.reduceAdd,Nat.reduceMul,Nat.reduceSub,Nat.reduceLeDiff,Nat.reduceBEq,Int.reduceToNat,Int.reduceLE,Int.reduceLT,Int.reduceEq,Int.reduceNe,di]
 unfold fstE
 rw [if_pos h1,if_pos h2,if_pos h3]
theorem r_CopyStates {l:List Sta} (hl:l.length≤1000000000):Contract Tryz.prog 83 [.slc 2 (l.map ssI)] (.slc 2 (l.map ssI)):=by
 refine contract_run Tryz.func83 k83 rfl ?_
 simp only [body83,b83,res83,ruI,ssI,sbI,spI,swI,scI,stI,srI,saI,snI, ↓reduceIte,reduceCtorEq,Nat.reduceEqDiff,Nat.reduceAdd,Nat.reduceMul,Nat.reduceSub,Nat.reduceLeDiff,Nat.reduceBEq,Int.reduceToNat,Int.reduceLE,Int.reduceLT,Int.reduceEq,Int.reduceNe,di]
 omega
theorem r_CopyWitness {w:Wt} (hl:w.ord.length≤1000000000):Contract Tryz.prog 85 [swI w] (swI w):=by
 refine contract_run Tryz.func85 k85 rfl ?_
 simp only [body85,b85,res85,ruI,ssI,sbI,spI,swI,scI,stI,srI,saI,snI, ↓reduceIte,reduceCtorEq,Nat.reduceEqDiff,Nat.reduceAdd,Nat.reduceMul,Nat.reduceSub,Nat.reduceLeDiff,Nat.reduceBEq,Int.reduceToNat,Int.reduceLE,Int.reduceLT,Int.reduceEq,Int.reduceNe,di]
 refine calls_of (c_CopyInts (a:=w.ord) (by omega)) ?_; simp only [ruI,ssI,sbI,spI,swI,scI,stI,srI,saI,snI,res85, ↓reduceIte,reduceCtorEq,Nat.reduceEqDiff,Nat.reduceAdd,Nat.reduceMul,Nat.reduceSub,Nat.reduceLeDiff,Nat.reduceBEq,Int.reduceToNat,Int.reduceLE,Int.reduceLT,Int.reduceEq,Int.reduceNe,di]
theorem maxL_eq {l:List Int} (h:l ≠ []):maxL l (l.getD 0 0)=maxL (l.drop 1) (l.getD 0 0):=by
 cases l with
 | nil=>exact (h rfl).elim
 | cons x r =>
  show maxL r (max x x)=maxL r x
  rw [Int.max_self]
def startsE (ss:List Sta):Int:=fstE (if 0<ss.length then 0 else 10) (fstE (if ss.length≤40 then 0 else 8) (if (ss.any fun s => !decide (stateErr s=0))=true then 2 else 0))
def wZ:Wt:=⟨[],⟨0,0⟩,0,0⟩
def wCells (w:Wt):List DV:=[.imm (snI w.ord),.imm (.int .i64 w.st.L),.imm (.int .i64 w.st.F),.imm (.int .i64 w.k),.imm (.int .i64 w.lev)]
end Go.DI


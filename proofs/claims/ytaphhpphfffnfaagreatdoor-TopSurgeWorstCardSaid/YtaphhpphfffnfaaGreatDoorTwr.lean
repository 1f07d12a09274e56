/- Contracts: the reference's covers; the statement SurgeCovers. No condition. -/
import Derived.Test.YtaphhpphfffnfaaGreatDoorTwq
set_option linter.unusedSimpArgs false
set_option maxRecDepth 20000
namespace Go.DI
open Go.Proofs Go.RowKit Sg
theorem r_BoxErrS {b:Bx}:Contract Tryz.prog 157 [sbI b] (.int .i64 (boxErr b)):=r_BoxErr
theorem r_CoverErr {v:Cv}:Contract Tryz.prog 69 [scI v] (.int .i64 (coverE v)):=by
 have rb:=r_BoxErrS (b:=v.b)
 refine contract_run Tryz.func69 k69 rfl ?_
 simp only [body69,b69,res69,b69k0,b69k1,b69k2,ruI,ssI,sbI,spI,swI,scI,stI,srI,saI,snI, ↓reduceIte,reduceCtorEq,Nat.reduceEqDiff,Nat.reduceAdd,Nat.reduceMul,Nat.reduceSub,Nat.reduceLeDiff,Nat.reduceBEq,Int.reduceToNat,Int.reduceLE,Int.reduceLT,Int.reduceEq,Int.reduceNe,di]
 refine calls_of rb ?_; simp only [ruI,ssI,sbI,spI,swI,scI,stI,srI,saI,snI,res69,b69k0,b69k1,b69k2, ↓reduceIte,reduceCtorEq,Nat.reduceEqDiff,Nat.reduceAdd,Nat.reduceMul,Nat.reduceSub,Nat.reduceLeDiff,Nat.reduceBEq,Int.reduceToNat,Int.reduceLE,Int.reduceLT,Int.reduceEq,Int.reduceNe,di]
 unfold coverE
 by_cases h1:boxErr v.b=0
 case neg =>
  unfold fstE
  simp only [h1,ruI,ssI,sbI,spI,swI,scI,stI,srI,saI,snI, ↓reduceIte,reduceCtorEq,Nat.reduceEqDiff,Nat.reduceAdd,Nat.reduceMul,Nat.reduceSub,Nat.reduceLeDiff,Nat.reduceBEq,Int.reduceToNat,Int.reduceLE,Int.reduceLT,Int.reduceEq,Int.reduceNe,di]
 rw [show fstE (boxErr v.b) _=_ from if_pos h1]
 simp only [h1,ruI,ssI,sbI,spI,swI,scI,stI,srI,saI,snI, ↓reduceIte,reduceCtorEq,Nat.reduceEqDiff,Nat.reduceAdd,Nat.reduceMul,Nat.reduceSub,Nat.reduceLeDiff,Nat.reduceBEq,Int.reduceToNat,Int.reduceLE,Int.reduceLT,Int.reduceEq,Int.reduceNe,di]
 refine calls_of c_Wi ?_; simp only [ruI,ssI,sbI,spI,swI,scI,stI,srI,saI,snI,res69,b69k0,b69k1,b69k2, ↓reduceIte,reduceCtorEq,Nat.reduceEqDiff,Nat.reduceAdd,Nat.reduceMul,Nat.reduceSub,Nat.reduceLeDiff,Nat.reduceBEq,Int.reduceToNat,Int.reduceLE,Int.reduceLT,Int.reduceEq,Int.reduceNe,di]
 by_cases w1:Wi v.parts 1 8
 case neg =>
  simp only [w1,ruI,ssI,sbI,spI,swI,scI,stI,srI,saI,snI, ↓reduceIte,reduceCtorEq,Nat.reduceEqDiff,Nat.reduceAdd,Nat.reduceMul,Nat.reduceSub,Nat.reduceLeDiff,Nat.reduceBEq,Int.reduceToNat,Int.reduceLE,Int.reduceLT,Int.reduceEq,Int.reduceNe,di]
  unfold fstE
  simp
 simp only [w1,ruI,ssI,sbI,spI,swI,scI,stI,srI,saI,snI, ↓reduceIte,reduceCtorEq,Nat.reduceEqDiff,Nat.reduceAdd,Nat.reduceMul,Nat.reduceSub,Nat.reduceLeDiff,Nat.reduceBEq,Int.reduceToNat,Int.reduceLE,Int.reduceLT,Int.reduceEq,Int.reduceNe,di]
 refine calls_of c_Wi ?_; simp only [ruI,ssI,sbI,spI,swI,scI,stI,srI,saI,snI,res69,b69k0,b69k1,b69k2, ↓reduceIte,reduceCtorEq,Nat.reduceEqDiff,Nat.reduceAdd,Nat.reduceMul,Nat.reduceSub,Nat.reduceLeDiff,Nat.reduceBEq,Int.reduceToNat,Int.reduceLE,Int.reduceLT,Int.reduceEq,Int.reduceNe,di]
 by_cases w2:Wi v.lo (-100000) 100000
 case neg =>
  simp only [w2,ruI,ssI,sbI,spI,swI,scI,stI,srI,saI,snI, ↓reduceIte,reduceCtorEq,Nat.reduceEqDiff,Nat.reduceAdd,Nat.reduceMul,Nat.reduceSub,Nat.reduceLeDiff,Nat.reduceBEq,Int.reduceToNat,Int.reduceLE,Int.reduceLT,Int.reduceEq,Int.reduceNe,di]
  unfold fstE
  simp
 simp only [w2,ruI,ssI,sbI,spI,swI,scI,stI,srI,saI,snI, ↓reduceIte,reduceCtorEq,Nat.reduceEqDiff,Nat.reduceAdd,Nat.reduceMul,Nat.reduceSub,Nat.reduceLeDiff,Nat.reduceBEq,Int.reduceToNat,Int.reduceLE,Int.reduceLT,Int.reduceEq,Int.reduceNe,di]
 refine calls_of c_Wi ?_; simp only [ruI,ssI,sbI,spI,swI,scI,stI,srI,saI,snI,res69,b69k0,b69k1,b69k2, ↓reduceIte,reduceCtorEq,Nat.reduceEqDiff,Nat.reduceAdd,Nat.reduceMul,Nat.reduceSub,Nat.reduceLeDiff,Nat.reduceBEq,Int.reduceToNat,Int.reduceLE,Int.reduceLT,Int.reduceEq,Int.reduceNe,di]
 by_cases w3:Wi v.hi (-100000) 100000
 case neg =>
  simp only [w3,ruI,ssI,sbI,spI,swI,scI,stI,srI,saI,snI, ↓reduceIte,reduceCtorEq,Nat.reduceEqDiff,Nat.reduceAdd,Nat.reduceMul,Nat.reduceSub,Nat.reduceLeDiff,Nat.reduceBEq,Int.reduceToNat,Int.reduceLE,Int.reduceLT,Int.reduceEq,Int.reduceNe,di]
  unfold fstE
  simp
 simp only [w3,ruI,ssI,sbI,spI,swI,scI,stI,srI,saI,snI, ↓reduceIte,reduceCtorEq,Nat.reduceEqDiff,Nat.reduceAdd,Nat.reduceMul,Nat.reduceSub,Nat.reduceLeDiff,Nat.reduceBEq,Int.reduceToNat,Int.reduceLE,Int.reduceLT,Int.reduceEq,Int.reduceNe,di]
 unfold fstE
 by_cases w4:v.hi<v.lo
 ·rw [if_pos w4,if_neg (show ¬ v.lo≤v.hi by omega)]
  simp
 ·rw [if_neg w4,if_pos (show v.lo≤v.hi by omega)]
  simp
theorem r_BoxesErr {bs:List Bx} (hn:bs.length≤1000000000):Contract Tryz.prog 74 [.slc 4 (bs.map sbI)] (.int .i64 (boxesE bs)):=by
 refine contract_run Tryz.func74 k74 rfl ?_
 simp only [body74,b74,res74,b74k0,b74k1,b74k2,b74k3,b74k4,ruI,ssI,sbI,spI,swI,scI,stI,srI,saI,snI, ↓reduceIte,reduceCtorEq,Nat.reduceEqDiff,Nat.reduceAdd,Nat.reduceMul,Nat.reduceSub,Nat.reduceLeDiff,Nat.reduceBEq,Int.reduceToNat,Int.reduceLE,Int.reduceLT,Int.reduceEq,Int.reduceNe,di]
 unfold boxesE fstE
 by_cases h1:bs.length=0
 ·rw [if_pos (by omega),if_neg (show ¬ 0<bs.length by omega)]
  rfl
 rw [if_neg (by omega),if_pos (show 0<bs.length by omega),if_pos rfl]
 by_cases h2:bs.length≤64
 case neg =>
  rw [if_pos (by omega),if_neg h2]
  rfl
 rw [if_neg (by omega),if_pos h2,if_pos rfl]
 refine loop_keep (α:=Nat) rfl (fun i=>bs.length - i) (fun i=>i≤bs.length∧scanB bs=scanB (bs.drop i))
  (fun i=>[(0,.imm (.slc 4 (bs.map sbI))),(3,.imm (.int .i64 i))]) (fun _=>[]) 0 ⟨Nat.zero_le _,rfl⟩ (by simp only [ruI,ssI,sbI,spI,swI,scI,stI,srI,saI,snI, ↓reduceIte,reduceCtorEq,Nat.reduceEqDiff,Nat.reduceAdd,Nat.reduceMul,Nat.reduceSub,Nat.reduceLeDiff,Nat.reduceBEq,Int.reduceToNat,Int.reduceLE,Int.reduceLT,Int.reduceEq,Int.reduceNe,di] <;> rfl) ?_
 intro i ⟨hi,hs⟩ ih
 simp only [res74,b74k0,b74k1,b74k2,b74k3,b74k4,ruI,ssI,sbI,spI,swI,scI,stI,srI,saI,snI, ↓reduceIte,reduceCtorEq,Nat.reduceEqDiff,Nat.reduceAdd,Nat.reduceMul,Nat.reduceSub,Nat.reduceLeDiff,Nat.reduceBEq,Int.reduceToNat,Int.reduceLE,Int.reduceLT,Int.reduceEq,Int.reduceNe,di]
 split
 case isFalse h =>
  rw [List.drop_of_length_le (by omega)] at hs
  rw [hs]
  rfl
 rename_i h
 have hlt:i<bs.length:=by omega
 have hd:bs.drop i=bs.getD i default :: bs.drop (i+1):=by
  rw [List.drop_eq_getElem_cons hlt,List.getD_eq_getElem?_getD]
  simp [hlt]
 rw [hd] at hs
 generalize bs.getD i default=b at hs
 repeat (refine And.intro (by omega) ?_)
 refine calls_of (r_BoxErrS (b:=b)) ?_
 simp only [res74,b74k0,b74k1,b74k2,b74k3,b74k4,ruI,ssI,sbI,spI,swI,scI,stI,srI,saI,snI, ↓reduceIte,reduceCtorEq,Nat.reduceEqDiff,Nat.reduceAdd,Nat.reduceMul,Nat.reduceSub,Nat.reduceLeDiff,Nat.reduceBEq,Int.reduceToNat,Int.reduceLE,Int.reduceLT,Int.reduceEq,Int.reduceNe,di]
 rw [show scanB (b :: bs.drop (i+1))=if boxErr b=0 then scanB (bs.drop (i+1)) else boxErr b from rfl] at hs
 by_cases h3:boxErr b=0
 ·rw [if_pos h3] at hs
  simp only [h3,ruI,ssI,sbI,spI,swI,scI,stI,srI,saI,snI, ↓reduceIte,reduceCtorEq,Nat.reduceEqDiff,Nat.reduceAdd,Nat.reduceMul,Nat.reduceSub,Nat.reduceLeDiff,Nat.reduceBEq,Int.reduceToNat,Int.reduceLE,Int.reduceLT,Int.reduceEq,Int.reduceNe,di]
  rw [wrap64 (by omega) (by omega)]
  exact ih (i+1) _ _ (by omega) ⟨by omega,hs⟩ (by simp only [ruI,ssI,sbI,spI,swI,scI,stI,srI,saI,snI, ↓reduceIte,reduceCtorEq,Nat.reduceEqDiff,Nat.reduceAdd,Nat.reduceMul,Nat.reduceSub,Nat.reduceLeDiff,Nat.reduceBEq,Int.reduceToNat,Int.reduceLE,Int.reduceLT,Int.reduceEq,Int.reduceNe,di] <;> rfl)
 ·rw [if_neg h3] at hs
  simp only [h3,ruI,ssI,sbI,spI,swI,scI,stI,srI,saI,snI, ↓reduceIte,reduceCtorEq,Nat.reduceEqDiff,Nat.reduceAdd,Nat.reduceMul,Nat.reduceSub,Nat.reduceLeDiff,Nat.reduceBEq,Int.reduceToNat,Int.reduceLE,Int.reduceLT,Int.reduceEq,Int.reduceNe,di]
  rw [hs]
theorem r_CopyBoxes {l:List Bx} (hl:l.length≤1000000000):Contract Tryz.prog 76 [.slc 4 (l.map sbI)] (.slc 4 (l.map sbI)):=by
 refine contract_run Tryz.func76 k76 rfl ?_
 simp only [body76,b76,res76,ruI,ssI,sbI,spI,swI,scI,stI,srI,saI,snI, ↓reduceIte,reduceCtorEq,Nat.reduceEqDiff,Nat.reduceAdd,Nat.reduceMul,Nat.reduceSub,Nat.reduceLeDiff,Nat.reduceBEq,Int.reduceToNat,Int.reduceLE,Int.reduceLT,Int.reduceEq,Int.reduceNe,di]
 omega
theorem r_Count {b:Bx} (h:boxErr b=0):Contract Tryz.prog 70 [sbI b] (.int .i64 (countB b)):=by
 have hc:=count_bd h
 have hb:=boxErr_zero.1 h
 refine contract_run Tryz.func70 k70 rfl ?_
 simp only [body70,b70,res70,ruI,ssI,sbI,spI,swI,scI,stI,srI,saI,snI, ↓reduceIte,reduceCtorEq,Nat.reduceEqDiff,Nat.reduceAdd,Nat.reduceMul,Nat.reduceSub,Nat.reduceLeDiff,Nat.reduceBEq,Int.reduceToNat,Int.reduceLE,Int.reduceLT,Int.reduceEq,Int.reduceNe,di]
 simp only [show IntKind.wrap .i64 (b.lh - b.ll)=b.lh - b.ll from wrap64 (by omega) (by omega)]
 simp only [show IntKind.wrap .i64 (b.lh - b.ll+1)=b.lh - b.ll+1 from wrap64 (by omega) (by omega)]
 simp only [show IntKind.wrap .i64 (b.fh - b.fl)=b.fh - b.fl from wrap64 (by omega) (by omega)]
 simp only [show IntKind.wrap .i64 (b.fh - b.fl+1)=b.fh - b.fl+1 from wrap64 (by omega) (by omega)]
 rw [show (b.lh - b.ll+1) * (b.fh - b.fl+1)=countB b from rfl]
 simp only [show IntKind.wrap .i64 (countB b)=countB b from wrap64 (by omega) (by omega)]
theorem inB_eq {b:Bx} {s:Sta}:inB b s=decide (InB b s):=by
 unfold inB
 rw [decide_eq_decide]
 unfold InB Wi
 omega
def scCells (v:Cv):List DV:=[.imm (.int .i64 v.b.ll),.imm (.int .i64 v.b.lh),.imm (.int .i64 v.b.fl),.imm (.int .i64 v.b.fh),.imm (.int .i64 v.parts),.imm (.int .i64 v.lo),.imm (.int .i64 v.hi)]
end Go.DI


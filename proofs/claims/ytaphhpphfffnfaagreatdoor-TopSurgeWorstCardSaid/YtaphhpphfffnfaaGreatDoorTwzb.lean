/- Contract: with the shortest wait a start keeps the limits. No condition. -/
import Derived.Test.YtaphhpphfffnfaaGreatDoorTwz
import Derived.Test.YtaphhpphfffnfaaGreatDoorTwk
import Derived.Test.YtaphhpphfffnfaaGreatDoorTwGk
import Derived.Test.YtaphhpphfffnfaaGreatDoorTwza
set_option linter.unusedSimpArgs false
set_option maxRecDepth 100000
namespace Go.DI
open Go.Proofs Go.RowKit Sg
theorem loads_run {r:Ru} {p:Pl} {o:List Int} {s:Sta} {k:Int} (hr:Sg.Good r) (hp:PlanOk p) (ho:o ∈ ordersP p) (hs:stateErr s=0) (hk:r.lo≤k∧k≤r.hi):runE r s (loadsP p o) k=0∧(loadsP p o).length=p.ticks.toNat∧loadsErr (loadsP p o)=0:=by
 have hl:=loads_ok hp (orders_perm ho)
 have ht:=hp.ticks
 have hlen:(loadsP p o).length=p.ticks.toNat:=loadsF_length _ _ _
 have he:loadsErr (loadsP p o)=0:=loadsErr_zero.2 ⟨by omega,hl.2⟩
 refine ⟨?_,hlen,he⟩
 unfold runE
 rw [fstE_zero,fstE_zero,fstE_zero,rules_ok]
 exact ⟨⟨hr,hs⟩,he,fricErr_zero.2 hk⟩
theorem l_surgeKept {r:Ru} {p:Pl} {v:Cv} {s:Sta} (hr:Sg.Good r) (hp:PlanOk p) (hv:coverE v=0) (hs:InB v.b s):Contract Tryz.prog 87 [ruI r,spI p,scI v,ssI s] (.bool true):=by
 have hpl:=hp.len
 have hb:=boxErr_zero.1 (coverE_zero.1 hv).1
 have hse:stateErr s=0:=by
  rw [stateErr_zero]
  unfold InB Wi at hs
  omega
 have hwE:waitE r p v=0:=by unfold waitE; rw [fstE_zero]; exact ⟨planEr_zero.2 ⟨hr,hp⟩,hv⟩
 have sw:=s_ShortestWait (r:=r) (p:=p) (v:=v) (by omega)
 rw [if_pos hwE] at sw
 have cp:=r_CopyPlan (p:=p) (by omega)
 refine contract_run Tryz.func87 k87 rfl ?_
 simp only [body87,b87,res87,b87k0,b87k1,b87k2,b87k3,b87k4,b87k5,b87k6,b87k7,ruI,ssI,sbI,spI,swI,scI,stI,srI,saI,snI, ↓reduceIte,reduceCtorEq,Nat.reduceEqDiff,Nat.reduceAdd,Nat.reduceMul,Nat.reduceSub,Nat.reduceLeDiff,Nat.reduceBEq,Int.reduceToNat,Int.reduceLE,Int.reduceLT,Int.reduceEq,Int.reduceNe,di]
 refine calls_of cp ?_; simp only [ruI,ssI,sbI,spI,swI,scI,stI,srI,saI,snI,res87,b87k0,b87k1,b87k2,b87k3,b87k4,b87k5,b87k6,b87k7, ↓reduceIte,reduceCtorEq,Nat.reduceEqDiff,Nat.reduceAdd,Nat.reduceMul,Nat.reduceSub,Nat.reduceLeDiff,Nat.reduceBEq,Int.reduceToNat,Int.reduceLE,Int.reduceLT,Int.reduceEq,Int.reduceNe,di]
 cases hw:shortP r p v with
 | none =>
  rw [hw] at sw
  simp only [optE,optW] at sw
  refine calls_of sw ?_; simp only [ruI,ssI,sbI,spI,swI,scI,stI,srI,saI,snI,res87,b87k0,b87k1,b87k2,b87k3,b87k4,b87k5,b87k6,b87k7, ↓reduceIte,reduceCtorEq,Nat.reduceEqDiff,Nat.reduceAdd,Nat.reduceMul,Nat.reduceSub,Nat.reduceLeDiff,Nat.reduceBEq,Int.reduceToNat,Int.reduceLE,Int.reduceLT,Int.reduceEq,Int.reduceNe,di]
 | some w0 =>
  rw [hw] at sw
  simp only [optE,optW] at sw
  obtain ⟨⟨w1,w2,w3⟩, -⟩:=shortF_wider 20 1 hw
  have hps:=setW_ok (w:=w0) hp ⟨w1,by push_cast at w2; omega⟩
  refine calls_of sw ?_; simp only [ruI,ssI,sbI,spI,swI,scI,stI,srI,saI,snI,res87,b87k0,b87k1,b87k2,b87k3,b87k4,b87k5,b87k6,b87k7, ↓reduceIte,reduceCtorEq,Nat.reduceEqDiff,Nat.reduceAdd,Nat.reduceMul,Nat.reduceSub,Nat.reduceLeDiff,Nat.reduceBEq,Int.reduceToNat,Int.reduceLE,Int.reduceLT,Int.reduceEq,Int.reduceNe,di]
  refine calls_of cp ?_; simp only [ruI,ssI,sbI,spI,swI,scI,stI,srI,saI,snI,res87,b87k0,b87k1,b87k2,b87k3,b87k4,b87k5,b87k6,b87k7, ↓reduceIte,reduceCtorEq,Nat.reduceEqDiff,Nat.reduceAdd,Nat.reduceMul,Nat.reduceSub,Nat.reduceLeDiff,Nat.reduceBEq,Int.reduceToNat,Int.reduceLE,Int.reduceLT,Int.reduceEq,Int.reduceNe,di]
  have pe:=r_PlanErr0 (r:=r) (p:=setW p w0)
  rw [planEr_zero.2 ⟨hr,hps⟩] at pe
  have od:=r_Orders hps
  simp only [setW] at pe
  refine calls_of pe ?_; simp only [ruI,ssI,sbI,spI,swI,scI,stI,srI,saI,snI,res87,b87k0,b87k1,b87k2,b87k3,b87k4,b87k5,b87k6,b87k7, ↓reduceIte,reduceCtorEq,Nat.reduceEqDiff,Nat.reduceAdd,Nat.reduceMul,Nat.reduceSub,Nat.reduceLeDiff,Nat.reduceBEq,Int.reduceToNat,Int.reduceLE,Int.reduceLT,Int.reduceEq,Int.reduceNe,di]
  simp only [setW] at od
  refine calls_of od ?_; simp only [ruI,ssI,sbI,spI,swI,scI,stI,srI,saI,snI,res87,b87k0,b87k1,b87k2,b87k3,b87k4,b87k5,b87k6,b87k7, ↓reduceIte,reduceCtorEq,Nat.reduceEqDiff,Nat.reduceAdd,Nat.reduceMul,Nat.reduceSub,Nat.reduceLeDiff,Nat.reduceBEq,Int.reduceToNat,Int.reduceLE,Int.reduceLT,Int.reduceEq,Int.reduceNe,di]
  have hop:=fun o (ho:o ∈ ordersP (setW p w0))=>orders_perm ho
  have hkept:=fun o (ho:o ∈ ordersP (setW p w0)) q hq=>kept_run (q:=q) (o:=o) hr hv w3 hps ho hs hq
  have hrun:=fun o (ho:o ∈ ordersP (setW p w0))=>loads_run (k:=r.hi) hr hps ho hse ⟨hr.le,Int.le_refl _⟩
  have hidx:=fun o (ho:o ∈ ordersP (setW p w0))=>orders_idx hps ho
  have hol:=fun o (ho:o ∈ ordersP (setW p w0))=>(orders_mem ho).1
  have hld:=fun o ho (hl:o.length≤1000)=>r_Loads (p:=setW p w0) (o:=o) hps ho hl
  have hpl2:(setW p w0).ch.length≤4:=hpl
  simp only [setW] at hop hkept hrun hidx hol hld hpl2
  have hol24:(ordersP (⟨p.load,p.ch,w0,p.ticks⟩ : Pl)).length≤1000000:=by
   have:=ordF_length (p:=(⟨p.load,p.ch,w0,p.ticks⟩ : Pl)) p.ch.length []
   have h5:p.ch.length ^ p.ch.length≤4 ^ 4:=Nat.le_trans (Nat.pow_le_pow_left hpl _) (Nat.pow_le_pow_right (by decide) hpl)
   exact Nat.le_trans this (Nat.le_trans h5 (by decide))
  generalize hQ:(⟨p.load,p.ch,w0,p.ticks⟩ : Pl)=Q at *
  have hQ11:[DV.imm (.int .i64 p.load),.imm (.slc 1 (p.ch.map (IV.int .i64))),.imm (.int .i64 w0),.imm (.int .i64 p.ticks)]=spC Q:=by rw [← hQ]; rfl
  generalize ordersP Q=os at *
  refine loop_keep (α:=Nat) rfl (fun i=>os.length - i) (fun i=>i≤os.length)
   (fun i=>[(4,.ref 4 0),(6,.ref 6 0),(7,.ref 7 0),(11,.ref 11 0),(12,.imm (.slc 1 (os.map snI))),(13,.imm (.int .i64 i))])
   (fun _=>[(4,.box (ruC r)),(6,.box (scCells v)),(7,.box [.imm (.int .i64 s.L),.imm (.int .i64 s.F)]),(11,.box (spC Q))]) 0 (Nat.zero_le _) (by rw [hQ11]; simp only [ruC,scCells,spC,ruI,ssI,sbI,spI,swI,scI,stI,srI,saI,snI, ↓reduceIte,reduceCtorEq,Nat.reduceEqDiff,Nat.reduceAdd,Nat.reduceMul,Nat.reduceSub,Nat.reduceLeDiff,Nat.reduceBEq,Int.reduceToNat,Int.reduceLE,Int.reduceLT,Int.reduceEq,Int.reduceNe,di] <;> rfl) ?_
  intro i hi ih
  simp only [res87,b87k0,b87k1,b87k2,b87k3,b87k4,b87k5,b87k6,b87k7,ruC,scCells,spC,ruI,ssI,sbI,spI,swI,scI,stI,srI,saI,snI, ↓reduceIte,reduceCtorEq,Nat.reduceEqDiff,Nat.reduceAdd,Nat.reduceMul,Nat.reduceSub,Nat.reduceLeDiff,Nat.reduceBEq,Int.reduceToNat,Int.reduceLE,Int.reduceLT,Int.reduceEq,Int.reduceNe,di]
  split
  case isFalse h=>trivial
  rename_i hlt0
  have hlt:i<os.length:=by omega
  have ho:os.getD i default ∈ os:=by rw [List.getD_eq_getElem?_getD,List.getElem?_eq_getElem hlt]; exact List.getElem_mem hlt
  refine ⟨hlt0,?_⟩
  have ih':=fun S R=>ih (i+1) S R (by omega) (by omega)
  generalize os.getD i default=o at *
  obtain ⟨re,rl,rz⟩:=hrun o ho
  have kp:=hkept o ho
  have lo:=hld o (hidx o ho) (by have:=hol o ho; omega)
  have sr:=s_RunOf (r:=r) (s:=s) (ls:=loadsP Q o) (k:=r.hi) (by have:=(loadsErr_zero.1 rz).1; omega)
  rw [if_pos re] at sr
  simp only [spI,snI] at lo
  simp only [srI,snI,ruI,ssI] at sr
  refine calls_of lo ?_; simp only [ruI,ssI,sbI,spI,swI,scI,stI,srI,saI,snI,res87,b87k0,b87k1,b87k2,b87k3,b87k4,b87k5,b87k6,b87k7, ↓reduceIte,reduceCtorEq,Nat.reduceEqDiff,Nat.reduceAdd,Nat.reduceMul,Nat.reduceSub,Nat.reduceLeDiff,Nat.reduceBEq,Int.reduceToNat,Int.reduceLE,Int.reduceLT,Int.reduceEq,Int.reduceNe,di]
  refine calls_of sr ?_; simp only [ruI,ssI,sbI,spI,swI,scI,stI,srI,saI,snI,res87,b87k0,b87k1,b87k2,b87k3,b87k4,b87k5,b87k6,b87k7, ↓reduceIte,reduceCtorEq,Nat.reduceEqDiff,Nat.reduceAdd,Nat.reduceMul,Nat.reduceSub,Nat.reduceLeDiff,Nat.reduceBEq,Int.reduceToNat,Int.reduceLE,Int.reduceLT,Int.reduceEq,Int.reduceNe,di]
  have hrl:=runL_length (r:=r) (k:=r.hi) (loadsP Q o) s
  have h200:=(loadsErr_zero.1 rz).1
  generalize runL r r.hi s (loadsP Q o)=R at *
  refine loop_keep (α:=Nat) rfl (fun t=>R.length - t) (fun t=>t≤R.length)
   (fun t=>[(4,.ref 4 0),(6,.ref 6 0),(7,.ref 7 0),(11,.ref 11 0),(12,.imm (.slc 1 (os.map snI))),(13,.imm (.int .i64 i)),(14,.imm (.slc 2 (R.map ssI))),(16,.imm (.int .i64 t))])
   (fun _=>[(4,.box (ruC r)),(6,.box (scCells v)),(7,.box [.imm (.int .i64 s.L),.imm (.int .i64 s.F)]),(11,.box (spC Q))]) 0 (Nat.zero_le _) (by simp only [ruC,scCells,spC,ruI,ssI,sbI,spI,swI,scI,stI,srI,saI,snI, ↓reduceIte,reduceCtorEq,Nat.reduceEqDiff,Nat.reduceAdd,Nat.reduceMul,Nat.reduceSub,Nat.reduceLeDiff,Nat.reduceBEq,Int.reduceToNat,Int.reduceLE,Int.reduceLT,Int.reduceEq,Int.reduceNe,di] <;> rfl) ?_
  intro t ht iht
  simp only [res87,b87k0,b87k1,b87k2,b87k3,b87k4,b87k5,b87k6,b87k7,ruC,scCells,spC,ruI,ssI,sbI,spI,swI,scI,stI,srI,saI,snI, ↓reduceIte,reduceCtorEq,Nat.reduceEqDiff,Nat.reduceAdd,Nat.reduceMul,Nat.reduceSub,Nat.reduceLeDiff,Nat.reduceBEq,Int.reduceToNat,Int.reduceLE,Int.reduceLT,Int.reduceEq,Int.reduceNe,di]
  split
  ·rename_i htl0
   have htl:t<R.length:=by omega
   have hm:=kp (R.getD t default) (by rw [List.getD_eq_getElem?_getD,List.getElem?_eq_getElem htl]; exact List.getElem_mem htl)
   refine ⟨htl0,?_⟩
   refine calls_of c_Wi ?_; simp only [ruI,ssI,sbI,spI,swI,scI,stI,srI,saI,snI,res87,b87k0,b87k1,b87k2,b87k3,b87k4,b87k5,b87k6,b87k7, ↓reduceIte,reduceCtorEq,Nat.reduceEqDiff,Nat.reduceAdd,Nat.reduceMul,Nat.reduceSub,Nat.reduceLeDiff,Nat.reduceBEq,Int.reduceToNat,Int.reduceLE,Int.reduceLT,Int.reduceEq,Int.reduceNe,di]
   rw [if_pos (show Wi (R.getD t default).L v.lo v.hi from hm),wrapS (n:=(t:Int)+1) (by omega) (by omega)]
   exact iht (t+1) _ _ (by omega) (by omega) (by simp only [ruC,scCells,spC,ruI,ssI,sbI,spI,swI,scI,stI,srI,saI,snI, ↓reduceIte,reduceCtorEq,Nat.reduceEqDiff,Nat.reduceAdd,Nat.reduceMul,Nat.reduceSub,Nat.reduceLeDiff,Nat.reduceBEq,Int.reduceToNat,Int.reduceLE,Int.reduceLT,Int.reduceEq,Int.reduceNe,di] <;> rfl)
  ·rename_i htg
   rw [wrapS (n:=(i:Int)+1) (by omega) (by omega)]
   exact ih' _ _ (by simp only [ruC,scCells,spC,ruI,ssI,sbI,spI,swI,scI,stI,srI,saI,snI, ↓reduceIte,reduceCtorEq,Nat.reduceEqDiff,Nat.reduceAdd,Nat.reduceMul,Nat.reduceSub,Nat.reduceLeDiff,Nat.reduceBEq,Int.reduceToNat,Int.reduceLE,Int.reduceLT,Int.reduceEq,Int.reduceNe,di] <;> rfl)
end Go.DI


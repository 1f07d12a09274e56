/- The statement TopSurgeWorst, as a contract: its day. No condition. -/
import Derived.Test.YtaphhpphfffnfaaGreatDoorTwzd
set_option linter.unusedSimpArgs false
set_option maxRecDepth 100000
namespace Go.DI
open Go.Proofs Go.RowKit Sg
theorem sw_day {r:Ru} {p:Pl} {v:Cv} {C:List Int} (hr:Sg.Good r) (hp:PlanOk p) (hv:coverE v=0) (ht:p.ticks≤12) (hC : 14≤C.length∧C.length≤40) (hC64:∀ n ∈ C,In64 n) (hos:ordersP p ≠ []) (hol:(ordersP p).length≤2) :
  run Tryz.prog b9k13 [] (d9.post (.bool true)) (mkS [(3,.ref 3 0),(4,.ref 4 0),(5,.ref 5 0),(11,.imm (.slc 1 ((ordersP p).map snI))),(13,.ref 13 0)]
   [(3,.box (ruC r)),(4,.box (spC p)),(5,.box (dayC v C)),(13,.box [.imm (.int .i64 (boundP r p (coverL v)).2.1),.imm (.int .i64 (boundP r p (coverL v)).2.2)])]):=by
 have hb:=boxErr_zero.1 (coverE_zero.1 hv).1
 have hpl:=hp.len
 have hptk:=hp.ticks
 have hpos:=List.length_pos_iff.2 hos
 have hc0:=hC64 (C.getD 0 0) (by rw [List.getD_eq_getElem?_getD,List.getElem?_eq_getElem (by omega)]; exact List.getElem_mem _)
 have hc1:=hC64 (C.getD 1 0) (by rw [List.getD_eq_getElem?_getD,List.getElem?_eq_getElem (by omega)]; exact List.getElem_mem _)
 have m1:=c_ModZ (n:=C.getD 0 0) (d:=v.b.lh - v.b.ll+1) (by omega) (by omega) hc0
 have m2:=c_ModZ (n:=C.getD 1 0) (d:=v.b.fh - v.b.fl+1) (by omega) (by omega) hc1
 have m3:=c_ModZ (n:=C.getD 0 0) (d:=((ordersP p).length:Int)) (by omega) (by omega) hc0
 have i1:=mod_in (n:=C.getD 0 0) (lo:=v.b.ll) (hi:=v.b.lh) (by omega)
 have i2:=mod_in (n:=C.getD 1 0) (lo:=v.b.fl) (hi:=v.b.fh) (by omega)
 have n3:=Int.emod_nonneg (C.getD 0 0) (show ((ordersP p).length:Int) ≠ 0 by omega)
 have l3:=Int.emod_lt_of_pos (C.getD 0 0) (show 0<((ordersP p).length:Int) by omega)
 have go:=fun s o (hs:InB v.b s) (ho:o ∈ ordersP p)=>sw_walk (r:=r) (p:=p) (v:=v) (C:=C) (s:=s) (o:=o) hr hp hv ho hs ht hC hC64
 have cp:=r_CopyPlan (p:=p) (by omega)
 have mem:(ordersP p).getD (C.getD 0 0 % ((ordersP p).length:Int)).toNat default ∈ ordersP p:=by
  rw [List.getD_eq_getElem?_getD,List.getElem?_eq_getElem (by omega)]
  exact List.getElem_mem _
 simp only [b9k13,res9,b9k14,b9k15,b9k16,b9k17,b9k18,ruC,spC,dayC,scCells,List.cons_append,List.nil_append,ruI,ssI,sbI,spI,swI,scI,stI,srI,saI,snI, ↓reduceIte,reduceCtorEq,Nat.reduceEqDiff,Nat.reduceAdd,Nat.reduceMul,Nat.reduceSub,Nat.reduceLeDiff,Nat.reduceBEq,Int.reduceToNat,Int.reduceLE,Int.reduceLT,Int.reduceEq,Int.reduceNe,di]
 refine ⟨by omega,?_⟩
 rw [wrapS (n:=v.b.lh - v.b.ll) (by omega) (by omega),wrapS (n:=v.b.lh - v.b.ll+1) (by omega) (by omega)]
 refine calls_of m1 ?_; simp only [ruI,ssI,sbI,spI,swI,scI,stI,srI,saI,snI,res9,b9k14,b9k15,b9k16,b9k17,b9k18, ↓reduceIte,reduceCtorEq,Nat.reduceEqDiff,Nat.reduceAdd,Nat.reduceMul,Nat.reduceSub,Nat.reduceLeDiff,Nat.reduceBEq,Int.reduceToNat,Int.reduceLE,Int.reduceLT,Int.reduceEq,Int.reduceNe,di]
 refine ⟨by omega,?_⟩
 rw [wrapS (n:=v.b.fh - v.b.fl) (by omega) (by omega),wrapS (n:=v.b.fh - v.b.fl+1) (by omega) (by omega)]
 refine calls_of m2 ?_; simp only [ruI,ssI,sbI,spI,swI,scI,stI,srI,saI,snI,res9,b9k14,b9k15,b9k16,b9k17,b9k18, ↓reduceIte,reduceCtorEq,Nat.reduceEqDiff,Nat.reduceAdd,Nat.reduceMul,Nat.reduceSub,Nat.reduceLeDiff,Nat.reduceBEq,Int.reduceToNat,Int.reduceLE,Int.reduceLT,Int.reduceEq,Int.reduceNe,di]
 generalize C.getD 0 0 % (v.b.lh - v.b.ll+1)=q1 at *
 generalize C.getD 1 0 % (v.b.fh - v.b.fl+1)=q2 at *
 rw [wrapS (n:=v.b.ll+q1) (by omega) (by omega),wrapS (n:=v.b.fl+q2) (by omega) (by omega)]
 refine ⟨by omega,?_⟩
 refine calls_of m3 ?_; simp only [ruI,ssI,sbI,spI,swI,scI,stI,srI,saI,snI,res9,b9k14,b9k15,b9k16,b9k17,b9k18, ↓reduceIte,reduceCtorEq,Nat.reduceEqDiff,Nat.reduceAdd,Nat.reduceMul,Nat.reduceSub,Nat.reduceLeDiff,Nat.reduceBEq,Int.reduceToNat,Int.reduceLE,Int.reduceLT,Int.reduceEq,Int.reduceNe,di]
 generalize C.getD 0 0 % ((ordersP p).length:Int)=q3 at *
 refine ⟨n3,l3,?_⟩
 have go2:=go ⟨v.b.ll+q1,v.b.fl+q2⟩ _ ⟨i1,i2⟩ mem
 generalize (ordersP p).getD q3.toNat default=o at *
 have hom:=orders_mem mem
 have ci:=c_CopyInts (a:=o) (by rw [hom.1]; omega)
 have lo:=s_LoadsOf (r:=r) (p:=p) (o:=o) (by omega)
 have he:loE r p o=0:=by
  unfold loE
  rw [fstE_zero]
  exact ⟨planEr_zero.2 ⟨hr,hp⟩,orders_iff.1 mem⟩
 rw [if_pos he] at lo
 obtain ⟨-,hlen,hle⟩:=loads_run (r:=r) (k:=r.lo) (s:=⟨0,0⟩) hr hp mem (by decide) ⟨Int.le_refl _,hr.le⟩
 have le:=r_LoadsErr (l:=loadsP p o) (by omega)
 rw [hle] at le
 simp only [ruC,spC,dayC,scCells,bxC,List.cons_append,List.nil_append] at go2
 have htl:((loadsP p o).length:Int)=p.ticks:=by omega
 refine calls_of cp ?_; simp only [ruI,ssI,sbI,spI,swI,scI,stI,srI,saI,snI,res9,b9k14,b9k15,b9k16,b9k17,b9k18, ↓reduceIte,reduceCtorEq,Nat.reduceEqDiff,Nat.reduceAdd,Nat.reduceMul,Nat.reduceSub,Nat.reduceLeDiff,Nat.reduceBEq,Int.reduceToNat,Int.reduceLE,Int.reduceLT,Int.reduceEq,Int.reduceNe,di]
 refine calls_of ci ?_; simp only [ruI,ssI,sbI,spI,swI,scI,stI,srI,saI,snI,res9,b9k14,b9k15,b9k16,b9k17,b9k18, ↓reduceIte,reduceCtorEq,Nat.reduceEqDiff,Nat.reduceAdd,Nat.reduceMul,Nat.reduceSub,Nat.reduceLeDiff,Nat.reduceBEq,Int.reduceToNat,Int.reduceLE,Int.reduceLT,Int.reduceEq,Int.reduceNe,di]
 refine calls_of lo ?_; simp only [ruI,ssI,sbI,spI,swI,scI,stI,srI,saI,snI,res9,b9k14,b9k15,b9k16,b9k17,b9k18, ↓reduceIte,reduceCtorEq,Nat.reduceEqDiff,Nat.reduceAdd,Nat.reduceMul,Nat.reduceSub,Nat.reduceLeDiff,Nat.reduceBEq,Int.reduceToNat,Int.reduceLE,Int.reduceLT,Int.reduceEq,Int.reduceNe,di]
 rw [if_pos htl]
 refine calls_of le ?_; simp only [ruI,ssI,sbI,spI,swI,scI,stI,srI,saI,snI,res9,b9k14,b9k15,b9k16,b9k17,b9k18, ↓reduceIte,reduceCtorEq,Nat.reduceEqDiff,Nat.reduceAdd,Nat.reduceMul,Nat.reduceSub,Nat.reduceLeDiff,Nat.reduceBEq,Int.reduceToNat,Int.reduceLE,Int.reduceLT,Int.reduceEq,Int.reduceNe,di]
 exact go2
end Go.DI


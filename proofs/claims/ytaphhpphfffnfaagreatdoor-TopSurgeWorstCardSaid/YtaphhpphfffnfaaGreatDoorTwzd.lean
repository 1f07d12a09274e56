/- The statement TopSurgeWorst, as a contract. No condition. -/
import Derived.Test.YtaphhpphfffnfaaGreatDoorTwzb
import Derived.Test.YtaphhpphfffnfaaGreatDoorTwzc
import Derived.Test.YtaphhpphfffnfaaGreatDoorTwn
set_option linter.unusedSimpArgs false
set_option maxRecDepth 100000
namespace Go.DI
open Go.Proofs Go.RowKit Sg
theorem c_ModZ {n d:Int} (hd : 0<d) (hd2:d≤1000000000) (hn:In64 n):Contract Tryz.prog 77 [.int .i64 n,.int .i64 d] (.int .i64 (n % d)):=by
 obtain ⟨n1,n2⟩:=hn
 have h1:=Int.emod_nonneg n (show d ≠ 0 by omega)
 have h2:=Int.emod_lt_of_pos n hd
 refine contract_run Tryz.func77 k77 rfl ?_
 simp only [body77,b77,res77,b77k0,ruI,ssI,sbI,spI,swI,scI,stI,srI,saI,snI, ↓reduceIte,reduceCtorEq,Nat.reduceEqDiff,Nat.reduceAdd,Nat.reduceMul,Nat.reduceSub,Nat.reduceLeDiff,Nat.reduceBEq,Int.reduceToNat,Int.reduceLE,Int.reduceLT,Int.reduceEq,Int.reduceNe,di]
 refine ⟨by omega,?_⟩
 rw [Int.tmod_eq_emod]
 by_cases hc : 0≤n∨d ∣ n
 ·rw [if_pos hc,show n % d - ((0:Nat):Int)=n % d by omega,if_neg (by omega)]
 ·have e:((d.natAbs:Nat):Int)=d:=by omega
  rw [if_neg hc,e,if_pos (by omega),wrapS (by omega) (by omega),show n % d - d+d=n % d by omega]
theorem startsE_four {b:Bx} (h:∀ c ∈ cornersB b,stateErr c=0):startsE (cornersB b)=0:=by
 unfold startsE
 rw [fstE_zero,fstE_zero]
 refine ⟨rfl,rfl,if_neg ?_⟩
 intro e
 obtain ⟨c,hc,e⟩:=List.any_eq_true.1 e
 rw [h c hc] at e
 cases e
def dayC (v:Cv) (C:List Int):List DV:=scCells v ++ [.imm (snI C)]
theorem sw_corners {r:Ru} {p:Pl} {v:Cv} {C:List Int} {s:Sta} {w:Wt} {o:List Int} {cs:List Sta} (hr:Sg.Good r) (hp:PlanOk p) (hv:coverE v=0) (ho:o ∈ ordersP p) (hs:InB v.b s) (hcl:cs.length≤4)
  (hcs:∀ c ∈ cs,stateErr c=0∧highL r c (loadsP p o) r.lo≤w.lev) :
  run Tryz.prog b9k10 [] (d9.post (.bool true)) (mkS [(3,.ref 3 0),(4,.ref 4 0),(5,.ref 5 0),(16,.ref 16 0),(18,.imm (snI (loadsP p o))),(25,.imm (.slc 2 (cs.map ssI))),(26,.ref 26 0)]
   [(3,.box (ruC r)),(4,.box (spC p)),(5,.box (dayC v C)),(16,.box [.imm (.int .i64 s.L),.imm (.int .i64 s.F)]),(26,.box (wCells w))]):=by
 have kept:=l_surgeKept hr hp hv hs
 have hrun:=fun c (hc:stateErr c=0)=>loads_run (r:=r) (k:=r.lo) (s:=c) hr hp ho hc ⟨Int.le_refl _,hr.le⟩
 simp only [b9k10,b9k9,res9,b9k11,b9k12,b9k13,b9k14,b9k15,b9k16,b9k17,b9k18,ruC,spC,dayC,scCells,wCells,List.cons_append,List.nil_append,ruI,ssI,sbI,spI,swI,scI,stI,srI,saI,snI, ↓reduceIte,reduceCtorEq,Nat.reduceEqDiff,Nat.reduceAdd,Nat.reduceMul,Nat.reduceSub,Nat.reduceLeDiff,Nat.reduceBEq,Int.reduceToNat,Int.reduceLE,Int.reduceLT,Int.reduceEq,Int.reduceNe,di]
 refine loop_keep (α:=Nat) rfl (fun i=>cs.length - i) (fun i=>i≤cs.length)
  (fun i=>[(3,.ref 3 0),(4,.ref 4 0),(5,.ref 5 0),(16,.ref 16 0),(18,.imm (snI (loadsP p o))),(25,.imm (.slc 2 (cs.map ssI))),(26,.ref 26 0),(28,.imm (.int .i64 i))])
  (fun _=>[(3,.box (ruC r)),(4,.box (spC p)),(5,.box (dayC v C)),(16,.box [.imm (.int .i64 s.L),.imm (.int .i64 s.F)]),(26,.box (wCells w))]) 0 (Nat.zero_le _) (by simp only [ruC,spC,dayC,scCells,wCells,List.cons_append,List.nil_append,ruI,ssI,sbI,spI,swI,scI,stI,srI,saI,snI, ↓reduceIte,reduceCtorEq,Nat.reduceEqDiff,Nat.reduceAdd,Nat.reduceMul,Nat.reduceSub,Nat.reduceLeDiff,Nat.reduceBEq,Int.reduceToNat,Int.reduceLE,Int.reduceLT,Int.reduceEq,Int.reduceNe,di] <;> rfl) ?_
 intro i hi ih
 simp only [b9k8,b9k7,b9k6,ruC,spC,dayC,scCells,wCells,List.cons_append,List.nil_append,ruI,ssI,sbI,spI,swI,scI,stI,srI,saI,snI, ↓reduceIte,reduceCtorEq,Nat.reduceEqDiff,Nat.reduceAdd,Nat.reduceMul,Nat.reduceSub,Nat.reduceLeDiff,Nat.reduceBEq,Int.reduceToNat,Int.reduceLE,Int.reduceLT,Int.reduceEq,Int.reduceNe,di]
 split
 ·rename_i hlt0
  have hlt:i<cs.length:=by omega
  have hc:=hcs (cs.getD i default) (by rw [List.getD_eq_getElem?_getD,List.getElem?_eq_getElem hlt]; exact List.getElem_mem hlt)
  have ih':=fun S R=>ih (i+1) S R (by omega) (by omega)
  refine ⟨hlt0,?_⟩
  generalize cs.getD i default=c at *
  obtain ⟨re,rl,rz⟩:=hrun c hc.1
  have h200:=(loadsErr_zero.1 rz).1
  have sr:=s_RunOf (r:=r) (s:=c) (ls:=loadsP p o) (k:=r.lo) (by omega)
  rw [if_pos re] at sr
  have ci:=c_CopyInts (a:=loadsP p o) (by omega)
  have hrl:=runL_length (r:=r) (k:=r.lo) (loadsP p o) c
  have hge:=fun q (hq:q ∈ runL r r.lo c (loadsP p o))=>high_ge hq
  generalize loadsP p o=ls at *
  simp only [srI,snI,ruI,ssI] at sr
  refine calls_of ci ?_; simp only [ruI,ssI,sbI,spI,swI,scI,stI,srI,saI,snI,res9,b9k11,b9k12,b9k13,b9k14,b9k15,b9k16,b9k17,b9k18, ↓reduceIte,reduceCtorEq,Nat.reduceEqDiff,Nat.reduceAdd,Nat.reduceMul,Nat.reduceSub,Nat.reduceLeDiff,Nat.reduceBEq,Int.reduceToNat,Int.reduceLE,Int.reduceLT,Int.reduceEq,Int.reduceNe,di]
  refine calls_of sr ?_; simp only [ruI,ssI,sbI,spI,swI,scI,stI,srI,saI,snI,res9,b9k11,b9k12,b9k13,b9k14,b9k15,b9k16,b9k17,b9k18, ↓reduceIte,reduceCtorEq,Nat.reduceEqDiff,Nat.reduceAdd,Nat.reduceMul,Nat.reduceSub,Nat.reduceLeDiff,Nat.reduceBEq,Int.reduceToNat,Int.reduceLE,Int.reduceLT,Int.reduceEq,Int.reduceNe,di]
  rw [if_pos (by omega)]
  generalize runL r r.lo c ls=R at *
  refine loop_keep (α:=Nat) rfl (fun t=>R.length - t) (fun t=>t≤R.length)
   (fun t=>[(3,.ref 3 0),(4,.ref 4 0),(5,.ref 5 0),(16,.ref 16 0),(18,.imm (snI ls)),(25,.imm (.slc 2 (cs.map ssI))),(26,.ref 26 0),(28,.imm (.int .i64 i)),(29,.imm (.slc 2 (R.map ssI))),(31,.imm (.int .i64 t))])
   (fun _=>[(3,.box (ruC r)),(4,.box (spC p)),(5,.box (dayC v C)),(16,.box [.imm (.int .i64 s.L),.imm (.int .i64 s.F)]),(26,.box (wCells w))]) 0 (Nat.zero_le _) (by simp only [ruC,spC,dayC,scCells,wCells,List.cons_append,List.nil_append,ruI,ssI,sbI,spI,swI,scI,stI,srI,saI,snI, ↓reduceIte,reduceCtorEq,Nat.reduceEqDiff,Nat.reduceAdd,Nat.reduceMul,Nat.reduceSub,Nat.reduceLeDiff,Nat.reduceBEq,Int.reduceToNat,Int.reduceLE,Int.reduceLT,Int.reduceEq,Int.reduceNe,di] <;> rfl) ?_
  intro t ht iht
  simp only [b9k5,b9k4,res9,b9k11,b9k12,b9k13,b9k14,b9k15,b9k16,b9k17,b9k18,ruC,spC,dayC,scCells,wCells,List.cons_append,List.nil_append,ruI,ssI,sbI,spI,swI,scI,stI,srI,saI,snI, ↓reduceIte,reduceCtorEq,Nat.reduceEqDiff,Nat.reduceAdd,Nat.reduceMul,Nat.reduceSub,Nat.reduceLeDiff,Nat.reduceBEq,Int.reduceToNat,Int.reduceLE,Int.reduceLT,Int.reduceEq,Int.reduceNe,di]
  split
  ·rename_i htl0
   have htl:t<R.length:=by omega
   have hm:=hge (R.getD t default) (by rw [List.getD_eq_getElem?_getD,List.getElem?_eq_getElem htl]; exact List.getElem_mem htl)
   have hc2:=hc.2
   refine ⟨htl0,?_⟩
   rw [if_neg (by omega),wrapS (n:=(t:Int)+1) (by omega) (by omega)]
   exact iht (t+1) _ _ (by omega) (by omega) (by simp only [ruC,spC,dayC,scCells,wCells,List.cons_append,List.nil_append,ruI,ssI,sbI,spI,swI,scI,stI,srI,saI,snI, ↓reduceIte,reduceCtorEq,Nat.reduceEqDiff,Nat.reduceAdd,Nat.reduceMul,Nat.reduceSub,Nat.reduceLeDiff,Nat.reduceBEq,Int.reduceToNat,Int.reduceLE,Int.reduceLT,Int.reduceEq,Int.reduceNe,di] <;> rfl)
  ·rename_i htg
   rw [wrapS (n:=(i:Int)+1) (by omega) (by omega)]
   exact ih' _ _ (by simp only [ruC,spC,dayC,scCells,wCells,List.cons_append,List.nil_append,ruI,ssI,sbI,spI,swI,scI,stI,srI,saI,snI, ↓reduceIte,reduceCtorEq,Nat.reduceEqDiff,Nat.reduceAdd,Nat.reduceMul,Nat.reduceSub,Nat.reduceLeDiff,Nat.reduceBEq,Int.reduceToNat,Int.reduceLE,Int.reduceLT,Int.reduceEq,Int.reduceNe,di] <;> rfl)
 ·rename_i hge
  refine calls_of kept ?_; simp only [ruI,ssI,sbI,spI,swI,scI,stI,srI,saI,snI,res9,b9k11,b9k12,b9k13,b9k14,b9k15,b9k16,b9k17,b9k18, ↓reduceIte,reduceCtorEq,Nat.reduceEqDiff,Nat.reduceAdd,Nat.reduceMul,Nat.reduceSub,Nat.reduceLeDiff,Nat.reduceBEq,Int.reduceToNat,Int.reduceLE,Int.reduceLT,Int.reduceEq,Int.reduceNe,di]
def bxC (b:Bx):List DV:=[.imm (.int .i64 b.ll),.imm (.int .i64 b.lh),.imm (.int .i64 b.fl),.imm (.int .i64 b.fh)]
theorem sw_worst {r:Ru} {p:Pl} {v:Cv} {C:List Int} {s:Sta} {o:List Int} (hr:Sg.Good r) (hp:PlanOk p) (hv:coverE v=0) (ho:o ∈ ordersP p) (hs:InB v.b s) :
  run Tryz.prog b9k11 [] (d9.post (.bool true)) (mkS [(3,.ref 3 0),(4,.ref 4 0),(5,.ref 5 0),(13,.ref 13 0),(15,.ref 15 0),(16,.ref 16 0),(18,.imm (snI (loadsP p o)))]
   [(3,.box (ruC r)),(4,.box (spC p)),(5,.box (dayC v C)),(13,.box [.imm (.int .i64 (boundP r p (coverL v)).2.1),.imm (.int .i64 (boundP r p (coverL v)).2.2)]),(15,.box (bxC v.b)),(16,.box [.imm (.int .i64 s.L),.imm (.int .i64 s.F)])]):=by
 have hE:(planEr r p).2=0:=planEr_zero.2 ⟨hr,hp⟩
 have hpl:=hp.len
 have hbv:=(coverE_zero.1 hv).1
 have hco:=corner_in hbv
 have hle:=hr.le
 have hst:startsE (cornersB v.b)=0:=startsE_four fun c hc=>(hco c hc).2
 have sw:=s_WorstOf (r:=r) (p:=p) (ss:=cornersB v.b) (by omega) (by show 4≤1000000000; decide)
 rw [worstR_starts hE,if_pos hst] at sw
 obtain ⟨w,hw⟩ : ∃ w,worstP r p (cornersB v.b)=some w:=by
  cases h:worstP r p (cornersB v.b) with
  | some w=>exact ⟨w,rfl⟩
  | none =>
   exfalso
   have:=(worstP_none (r:=r) (p:=p) (ss:=cornersB v.b) (by show 0<4; decide)).1 h
   rw [this] at ho
   cases ho
 rw [hw] at sw
 obtain ⟨⟨o1,ho1,s1,hs1,k1,hk1,e1,e2,e3,e4⟩,hbest⟩:=worstP_best hw
 have hk01:r.lo≤w.k∧w.k≤r.hi:=by rw [e3]; rcases hk1 with rfl | rfl <;> omega
 have hcw:chkW r p w=0:=chkW_zero.2 ⟨hE,by rw [e1]; exact orders_iff.1 ho1,by rw [e2]; exact (hco s1 hs1).2,hk01,by rw [e1,e2,e3,e4]⟩
 have hwo:w.ord.length≤4:=by rw [e1,(orders_mem ho1).1]; omega
 have ck:=s_CheckWitness (r:=r) (p:=p) (w:=w) (by omega)
 rw [hcw] at ck
 have cp:=r_CopyPlan (p:=p) (by omega)
 have cs:=r_CopyStates (l:=cornersB v.b) (by show 4≤1000000000; decide)
 have cw:=r_CopyWitness (w:=w) (by omega)
 obtain ⟨b,hb,hin⟩:=cover_box hv (hco s1 hs1).1
 have hbd:=high_bound (r:=r) (bs:=coverL v) hr hp ho1 (k:=k1) (by rw [← e3]; exact hk01) hb ((cover_ok hv).2 b hb) hin
 rw [← e4] at hbd
 have go:=sw_corners (C:=C) (w:=w) (cs:=cornersB v.b) hr hp hv ho hs (by show 4≤4; decide) (fun c hc=>⟨(hco c hc).2,hbest o ho c hc r.lo (.inl rfl)⟩)
 simp only [ruC,spC,dayC,scCells,wCells,List.cons_append,List.nil_append,cornersB,List.map] at go cs sw
 simp only [b9k11,res9,b9k12,b9k13,b9k14,b9k15,b9k16,b9k17,b9k18,ruC,spC,dayC,scCells,bxC,List.cons_append,List.nil_append,ruI,ssI,sbI,spI,swI,scI,stI,srI,saI,snI, ↓reduceIte,reduceCtorEq,Nat.reduceEqDiff,Nat.reduceAdd,Nat.reduceMul,Nat.reduceSub,Nat.reduceLeDiff,Nat.reduceBEq,Int.reduceToNat,Int.reduceLE,Int.reduceLT,Int.reduceEq,Int.reduceNe,di]
 refine calls_of cp ?_; simp only [ruI,ssI,sbI,spI,swI,scI,stI,srI,saI,snI,res9,b9k12,b9k13,b9k14,b9k15,b9k16,b9k17,b9k18, ↓reduceIte,reduceCtorEq,Nat.reduceEqDiff,Nat.reduceAdd,Nat.reduceMul,Nat.reduceSub,Nat.reduceLeDiff,Nat.reduceBEq,Int.reduceToNat,Int.reduceLE,Int.reduceLT,Int.reduceEq,Int.reduceNe,di]
 refine calls_of cs ?_; simp only [ruI,ssI,sbI,spI,swI,scI,stI,srI,saI,snI,res9,b9k12,b9k13,b9k14,b9k15,b9k16,b9k17,b9k18, ↓reduceIte,reduceCtorEq,Nat.reduceEqDiff,Nat.reduceAdd,Nat.reduceMul,Nat.reduceSub,Nat.reduceLeDiff,Nat.reduceBEq,Int.reduceToNat,Int.reduceLE,Int.reduceLT,Int.reduceEq,Int.reduceNe,di]
 refine calls_of sw ?_; simp only [ruI,ssI,sbI,spI,swI,scI,stI,srI,saI,snI,res9,b9k12,b9k13,b9k14,b9k15,b9k16,b9k17,b9k18, ↓reduceIte,reduceCtorEq,Nat.reduceEqDiff,Nat.reduceAdd,Nat.reduceMul,Nat.reduceSub,Nat.reduceLeDiff,Nat.reduceBEq,Int.reduceToNat,Int.reduceLE,Int.reduceLT,Int.reduceEq,Int.reduceNe,di]
 refine calls_of cp ?_; simp only [ruI,ssI,sbI,spI,swI,scI,stI,srI,saI,snI,res9,b9k12,b9k13,b9k14,b9k15,b9k16,b9k17,b9k18, ↓reduceIte,reduceCtorEq,Nat.reduceEqDiff,Nat.reduceAdd,Nat.reduceMul,Nat.reduceSub,Nat.reduceLeDiff,Nat.reduceBEq,Int.reduceToNat,Int.reduceLE,Int.reduceLT,Int.reduceEq,Int.reduceNe,di]
 refine calls_of cw ?_; simp only [ruI,ssI,sbI,spI,swI,scI,stI,srI,saI,snI,res9,b9k12,b9k13,b9k14,b9k15,b9k16,b9k17,b9k18, ↓reduceIte,reduceCtorEq,Nat.reduceEqDiff,Nat.reduceAdd,Nat.reduceMul,Nat.reduceSub,Nat.reduceLeDiff,Nat.reduceBEq,Int.reduceToNat,Int.reduceLE,Int.reduceLT,Int.reduceEq,Int.reduceNe,di]
 refine calls_of ck ?_; simp only [ruI,ssI,sbI,spI,swI,scI,stI,srI,saI,snI,res9,b9k12,b9k13,b9k14,b9k15,b9k16,b9k17,b9k18, ↓reduceIte,reduceCtorEq,Nat.reduceEqDiff,Nat.reduceAdd,Nat.reduceMul,Nat.reduceSub,Nat.reduceLeDiff,Nat.reduceBEq,Int.reduceToNat,Int.reduceLE,Int.reduceLT,Int.reduceEq,Int.reduceNe,di]
 rw [if_pos (by omega)]
 exact go
theorem sw_walk {r:Ru} {p:Pl} {v:Cv} {C:List Int} {s:Sta} {o:List Int} (hr:Sg.Good r) (hp:PlanOk p) (hv:coverE v=0) (ho:o ∈ ordersP p) (hs:InB v.b s) (ht:p.ticks≤12) (hC : 14≤C.length∧C.length≤40) (hC64:∀ n ∈ C,In64 n) :
  run Tryz.prog b9k12 [] (d9.post (.bool true)) (mkS [(3,.ref 3 0),(4,.ref 4 0),(5,.ref 5 0),(13,.ref 13 0),(15,.ref 15 0),(16,.ref 16 0),(18,.imm (snI (loadsP p o)))]
   [(3,.box (ruC r)),(4,.box (spC p)),(5,.box (dayC v C)),(13,.box [.imm (.int .i64 (boundP r p (coverL v)).2.1),.imm (.int .i64 (boundP r p (coverL v)).2.2)]),(15,.box (bxC v.b)),(16,.box [.imm (.int .i64 s.L),.imm (.int .i64 s.F)])]):=by
 have go:=sw_worst (C:=C) hr hp hv ho hs
 have hnow:=now_cover (r:=r) hv ho hs
 have hlo:=loads_ok hp (orders_perm ho)
 have hlen:(loadsP p o).length=p.ticks.toNat:=loadsF_length _ _ _
 have h0:=hr.lo; have h1:=hr.le; have h2:=hr.hi
 generalize boundP r p (coverL v)=B at *
 generalize loadsP p o=ls at *
 simp only [ruC,spC,dayC,scCells,bxC,List.cons_append,List.nil_append,snI] at go
 simp only [b9k12,res9,b9k13,b9k14,b9k15,b9k16,b9k17,b9k18,ruC,spC,dayC,scCells,bxC,List.cons_append,List.nil_append,ruI,ssI,sbI,spI,swI,scI,stI,srI,saI,snI, ↓reduceIte,reduceCtorEq,Nat.reduceEqDiff,Nat.reduceAdd,Nat.reduceMul,Nat.reduceSub,Nat.reduceLeDiff,Nat.reduceBEq,Int.reduceToNat,Int.reduceLE,Int.reduceLT,Int.reduceEq,Int.reduceNe,di]
 refine loop_keep (α:=Nat × Sta) rfl (fun q=>ls.length - q.1) (fun q=>q.1≤ls.length∧NowIn r B q.2 (ls.drop q.1))
  (fun q=>[(3,.ref 3 0),(4,.ref 4 0),(5,.ref 5 0),(13,.ref 13 0),(15,.ref 15 0),(16,.ref 16 0),(18,.imm (snI ls)),(20,.ref 20 0),(21,.imm (.int .i64 q.1))])
  (fun q=>[(3,.box (ruC r)),(4,.box (spC p)),(5,.box (dayC v C)),(13,.box [.imm (.int .i64 B.2.1),.imm (.int .i64 B.2.2)]),(15,.box (bxC v.b)),(16,.box [.imm (.int .i64 s.L),.imm (.int .i64 s.F)]),(20,.box [.imm (.int .i64 q.2.L),.imm (.int .i64 q.2.F)])]) (0,s) ⟨Nat.zero_le _,by dsimp only; rw [List.drop_zero]; exact hnow⟩ (by simp only [ruC,spC,dayC,scCells,bxC,List.cons_append,List.nil_append,ruI,ssI,sbI,spI,swI,scI,stI,srI,saI,snI, ↓reduceIte,reduceCtorEq,Nat.reduceEqDiff,Nat.reduceAdd,Nat.reduceMul,Nat.reduceSub,Nat.reduceLeDiff,Nat.reduceBEq,Int.reduceToNat,Int.reduceLE,Int.reduceLT,Int.reduceEq,Int.reduceNe,di] <;> rfl) ?_
 rintro ⟨t,n⟩ ⟨ht1,hn⟩ ih
 dsimp only at ht1 hn ⊢
 simp only [b9k3,b9k2,b9k1,b9k0,res9,b9k13,b9k14,b9k15,b9k16,b9k17,b9k18,ruC,spC,dayC,scCells,bxC,List.cons_append,List.nil_append,ruI,ssI,sbI,spI,swI,scI,stI,srI,saI,snI, ↓reduceIte,reduceCtorEq,Nat.reduceEqDiff,Nat.reduceAdd,Nat.reduceMul,Nat.reduceSub,Nat.reduceLeDiff,Nat.reduceBEq,Int.reduceToNat,Int.reduceLE,Int.reduceLT,Int.reduceEq,Int.reduceNe,di]
 split
 ·rename_i htl0
  have htl:t<ls.length:=by omega
  refine calls_of (r_StateErr (s:=n)) ?_; simp only [ruI,ssI,sbI,spI,swI,scI,stI,srI,saI,snI,res9,b9k13,b9k14,b9k15,b9k16,b9k17,b9k18, ↓reduceIte,reduceCtorEq,Nat.reduceEqDiff,Nat.reduceAdd,Nat.reduceMul,Nat.reduceSub,Nat.reduceLeDiff,Nat.reduceBEq,Int.reduceToNat,Int.reduceLE,Int.reduceLT,Int.reduceEq,Int.reduceNe,di]
  by_cases hse:stateErr n=0
  rotate_left
  ·simp only [hse,ruI,ssI,sbI,spI,swI,scI,stI,srI,saI,snI, ↓reduceIte,reduceCtorEq,Nat.reduceEqDiff,Nat.reduceAdd,Nat.reduceMul,Nat.reduceSub,Nat.reduceLeDiff,Nat.reduceBEq,Int.reduceToNat,Int.reduceLE,Int.reduceLT,Int.reduceEq,Int.reduceNe,di]
  simp only [hse,ruI,ssI,sbI,spI,swI,scI,stI,srI,saI,snI, ↓reduceIte,reduceCtorEq,Nat.reduceEqDiff,Nat.reduceAdd,Nat.reduceMul,Nat.reduceSub,Nat.reduceLeDiff,Nat.reduceBEq,Int.reduceToNat,Int.reduceLE,Int.reduceLT,Int.reduceEq,Int.reduceNe,di]
  have hdr:ls.drop t=ls.getD t 0 :: ls.drop (t+1):=by
   rw [List.drop_eq_getElem_cons htl,List.getD_eq_getElem?_getD,List.getElem?_eq_getElem htl]
   rfl
  have hl:=hlo.2 (ls.getD t 0) (by rw [List.getD_eq_getElem?_getD,List.getElem?_eq_getElem htl]; exact List.getElem_mem htl)
  have hcc:=hC64 (C.getD (2+t) 0) (by rw [List.getD_eq_getElem?_getD,List.getElem?_eq_getElem (by omega)]; exact List.getElem_mem _)
  have hk:=mod_in (n:=C.getD (2+t) 0) h1
  have hmd:=c_ModZ (n:=C.getD (2+t) 0) (d:=r.hi - r.lo+1) (by omega) (by omega) hcc
  rw [hdr] at hn
  rw [wrapS (n:=2+(t:Int)) (by omega) (by omega),wrapS (n:=r.hi - r.lo) (by omega) (by omega),wrapS (n:=r.hi - r.lo+1) (by omega) (by omega),show (2+(t:Int)).toNat=2+t by omega]
  refine ⟨by omega,by omega,?_⟩
  refine calls_of hmd ?_; simp only [ruI,ssI,sbI,spI,swI,scI,stI,srI,saI,snI,res9,b9k13,b9k14,b9k15,b9k16,b9k17,b9k18, ↓reduceIte,reduceCtorEq,Nat.reduceEqDiff,Nat.reduceAdd,Nat.reduceMul,Nat.reduceSub,Nat.reduceLeDiff,Nat.reduceBEq,Int.reduceToNat,Int.reduceLE,Int.reduceLT,Int.reduceEq,Int.reduceNe,di]
  generalize C.getD (2+t) 0 % (r.hi - r.lo+1)=k0 at *
  rw [wrapS (n:=r.lo+k0) (by omega) (by omega)]
  refine ⟨htl0,?_⟩
  generalize ls.getD t 0=load at *
  have hsd:stdE r n load (r.lo+k0)=0:=by
   unfold stdE
   rw [rules_ok.2 hr,hse,loadErr_zero.2 hl,fricErr_zero.2 ⟨hk.1,hk.2⟩]
   rfl
  have sd:=s_Stepped (r:=r) (s:=n) (load:=load) (k:=r.lo+k0)
  rw [if_pos hsd] at sd
  obtain ⟨hb,hnx⟩:=now_step hr hl ⟨hk.1,hk.2⟩ hn
  generalize stp r n load (r.lo+k0)=n2 at *
  refine calls_of sd ?_; simp only [ruI,ssI,sbI,spI,swI,scI,stI,srI,saI,snI,res9,b9k13,b9k14,b9k15,b9k16,b9k17,b9k18, ↓reduceIte,reduceCtorEq,Nat.reduceEqDiff,Nat.reduceAdd,Nat.reduceMul,Nat.reduceSub,Nat.reduceLeDiff,Nat.reduceBEq,Int.reduceToNat,Int.reduceLE,Int.reduceLT,Int.reduceEq,Int.reduceNe,di]
  refine calls_of c_Wi ?_; simp only [ruI,ssI,sbI,spI,swI,scI,stI,srI,saI,snI,res9,b9k13,b9k14,b9k15,b9k16,b9k17,b9k18, ↓reduceIte,reduceCtorEq,Nat.reduceEqDiff,Nat.reduceAdd,Nat.reduceMul,Nat.reduceSub,Nat.reduceLeDiff,Nat.reduceBEq,Int.reduceToNat,Int.reduceLE,Int.reduceLT,Int.reduceEq,Int.reduceNe,di]
  rw [if_pos (show Wi n2.L B.2.1 B.2.2 from hb),wrapS (n:=(t:Int)+1) (by omega) (by omega)]
  exact ih (t+1,n2) _ _ (by dsimp only; omega) ⟨by dsimp only; omega,hnx⟩ (by simp only [ruC,spC,dayC,scCells,bxC,List.cons_append,List.nil_append,ruI,ssI,sbI,spI,swI,scI,stI,srI,saI,snI, ↓reduceIte,reduceCtorEq,Nat.reduceEqDiff,Nat.reduceAdd,Nat.reduceMul,Nat.reduceSub,Nat.reduceLeDiff,Nat.reduceBEq,Int.reduceToNat,Int.reduceLE,Int.reduceLT,Int.reduceEq,Int.reduceNe,di] <;> rfl)
 ·rename_i hge
  exact go
end Go.DI


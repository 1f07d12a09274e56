/- The statement TopSurgeWorst, as a contract. No condition. -/
import Derived.Test.YtaphhpphfffnfaaGreatDoorTwze
set_option linter.unusedSimpArgs false
set_option maxRecDepth 100000
namespace Go.DI
open Go.Proofs Go.RowKit Sg
theorem sw_bound {r:Ru} {p:Pl} {v:Cv} {C:List Int} (hr:Sg.Good r) (hp:PlanOk p) (hv:coverE v=0) (h2:p.ch.length≤2) (ht:p.ticks≤12) (hC : 14≤C.length∧C.length≤40) (hC64:∀ n ∈ C,In64 n) (h64:(coverL v).length≤64) :
  run Tryz.prog b9k15 [] (d9.post (.bool true)) (mkS [(3,.ref 3 0),(4,.ref 4 0),(5,.ref 5 0),(9,.imm (.slc 4 ((coverL v).map sbI))),(11,.imm (.slc 1 ((ordersP p).map snI))),(12,.imm (.int .i64 (if 0<(ordersP p).length then 0 else 12)))]
   [(3,.box (ruC r)),(4,.box (spC p)),(5,.box (dayC v C))]):=by
 have hpl:=hp.len
 have hol:=orders_2 h2
 have go:=fun hos=>sw_day (r:=r) (p:=p) (v:=v) (C:=C) hr hp hv ht hC hC64 hos hol
 have bd:=bd_ok hr hp (cover_ne hv).1 h64 (cover_ok hv).2
 have cp:=r_CopyPlan (p:=p) (by omega)
 have cb:=r_CopyBoxes (l:=coverL v) (by omega)
 simp only [ruC,spC,dayC,scCells,List.cons_append,List.nil_append] at go
 simp only [b9k15,res9,b9k16,b9k17,b9k18,ruC,spC,dayC,scCells,List.cons_append,List.nil_append,ruI,ssI,sbI,spI,swI,scI,stI,srI,saI,snI, ↓reduceIte,reduceCtorEq,Nat.reduceEqDiff,Nat.reduceAdd,Nat.reduceMul,Nat.reduceSub,Nat.reduceLeDiff,Nat.reduceBEq,Int.reduceToNat,Int.reduceLE,Int.reduceLT,Int.reduceEq,Int.reduceNe,di]
 refine calls_of cp ?_; simp only [ruI,ssI,sbI,spI,swI,scI,stI,srI,saI,snI,res9,b9k16,b9k17,b9k18, ↓reduceIte,reduceCtorEq,Nat.reduceEqDiff,Nat.reduceAdd,Nat.reduceMul,Nat.reduceSub,Nat.reduceLeDiff,Nat.reduceBEq,Int.reduceToNat,Int.reduceLE,Int.reduceLT,Int.reduceEq,Int.reduceNe,di]
 refine calls_of cb ?_; simp only [ruI,ssI,sbI,spI,swI,scI,stI,srI,saI,snI,res9,b9k16,b9k17,b9k18, ↓reduceIte,reduceCtorEq,Nat.reduceEqDiff,Nat.reduceAdd,Nat.reduceMul,Nat.reduceSub,Nat.reduceLeDiff,Nat.reduceBEq,Int.reduceToNat,Int.reduceLE,Int.reduceLT,Int.reduceEq,Int.reduceNe,di]
 refine calls_of bd ?_; simp only [ruI,ssI,sbI,spI,swI,scI,stI,srI,saI,snI,res9,b9k16,b9k17,b9k18, ↓reduceIte,reduceCtorEq,Nat.reduceEqDiff,Nat.reduceAdd,Nat.reduceMul,Nat.reduceSub,Nat.reduceLeDiff,Nat.reduceBEq,Int.reduceToNat,Int.reduceLE,Int.reduceLT,Int.reduceEq,Int.reduceNe,di]
 by_cases hos:ordersP p=[]
 ·simp only [hos,List.length_nil,ruI,ssI,sbI,spI,swI,scI,stI,srI,saI,snI, ↓reduceIte,reduceCtorEq,Nat.reduceEqDiff,Nat.reduceAdd,Nat.reduceMul,Nat.reduceSub,Nat.reduceLeDiff,Nat.reduceBEq,Int.reduceToNat,Int.reduceLE,Int.reduceLT,Int.reduceEq,Int.reduceNe,di]
  simp
 ·have hpos:=List.length_pos_iff.2 hos
  rw [if_pos hpos,if_neg hos,if_pos (by omega)]
  simp only [b9k14,res9,b9k15,b9k16,b9k17,b9k18,ruI,ssI,sbI,spI,swI,scI,stI,srI,saI,snI, ↓reduceIte,reduceCtorEq,Nat.reduceEqDiff,Nat.reduceAdd,Nat.reduceMul,Nat.reduceSub,Nat.reduceLeDiff,Nat.reduceBEq,Int.reduceToNat,Int.reduceLE,Int.reduceLT,Int.reduceEq,Int.reduceNe,di]
  exact go hos
theorem sw_cover {r:Ru} {p:Pl} {v:Cv} {C:List Int} (hr:Sg.Good r) (hp:PlanOk p) (hv:coverE v=0) (h2:p.ch.length≤2) (ht:p.ticks≤12) (hC : 14≤C.length∧C.length≤40) (hC64:∀ n ∈ C,In64 n) (hpa:v.parts≤2) :
  run Tryz.prog b9k16 [] (d9.post (.bool true)) (mkS [(3,.ref 3 0),(4,.ref 4 0),(5,.ref 5 0)]
   [(3,.box (ruC r)),(4,.box (spC p)),(5,.box (dayC v C))]):=by
 have hpl:=hp.len
 obtain ⟨hne,hcl⟩:=cover_ne hv
 have hpos:=List.length_pos_iff.2 hne
 have h4:(coverL v).length≤4:=by
  have h:v.parts.toNat≤2:=by omega
  have:=Nat.mul_le_mul h h
  omega
 have go:=sw_bound (r:=r) (p:=p) (v:=v) (C:=C) hr hp hv h2 ht hC hC64 (by omega)
 have sc:=s_CoverOf (r:=r) (v:=v)
 rw [if_pos (show fstE (rulesErr r) (coverE v)=0 by rw [fstE_zero]; exact ⟨rules_ok.2 hr,hv⟩)] at sc
 have so:=s_OrdersOf (r:=r) (p:=p) (by omega)
 rw [if_pos (planEr_zero.2 ⟨hr,hp⟩)] at so
 have be:=r_BoxesErr (bs:=coverL v) (by omega)
 rw [boxesE_ok hne (by omega) (cover_ok hv).2] at be
 have cp:=r_CopyPlan (p:=p) (by omega)
 simp only [ruC,spC,dayC,scCells,List.cons_append,List.nil_append] at go
 simp only [b9k16,res9,b9k17,b9k18,ruC,spC,dayC,scCells,List.cons_append,List.nil_append,ruI,ssI,sbI,spI,swI,scI,stI,srI,saI,snI, ↓reduceIte,reduceCtorEq,Nat.reduceEqDiff,Nat.reduceAdd,Nat.reduceMul,Nat.reduceSub,Nat.reduceLeDiff,Nat.reduceBEq,Int.reduceToNat,Int.reduceLE,Int.reduceLT,Int.reduceEq,Int.reduceNe,di]
 refine calls_of sc ?_; simp only [ruI,ssI,sbI,spI,swI,scI,stI,srI,saI,snI,res9,b9k17,b9k18, ↓reduceIte,reduceCtorEq,Nat.reduceEqDiff,Nat.reduceAdd,Nat.reduceMul,Nat.reduceSub,Nat.reduceLeDiff,Nat.reduceBEq,Int.reduceToNat,Int.reduceLE,Int.reduceLT,Int.reduceEq,Int.reduceNe,di]
 refine calls_of cp ?_; simp only [ruI,ssI,sbI,spI,swI,scI,stI,srI,saI,snI,res9,b9k17,b9k18, ↓reduceIte,reduceCtorEq,Nat.reduceEqDiff,Nat.reduceAdd,Nat.reduceMul,Nat.reduceSub,Nat.reduceLeDiff,Nat.reduceBEq,Int.reduceToNat,Int.reduceLE,Int.reduceLT,Int.reduceEq,Int.reduceNe,di]
 refine calls_of so ?_; simp only [ruI,ssI,sbI,spI,swI,scI,stI,srI,saI,snI,res9,b9k17,b9k18, ↓reduceIte,reduceCtorEq,Nat.reduceEqDiff,Nat.reduceAdd,Nat.reduceMul,Nat.reduceSub,Nat.reduceLeDiff,Nat.reduceBEq,Int.reduceToNat,Int.reduceLE,Int.reduceLT,Int.reduceEq,Int.reduceNe,di]
 rw [if_pos (show ¬ ((coverL v).length:Int)=0∧¬ 4<((coverL v).length:Int) by omega)]
 refine calls_of be ?_; simp only [ruI,ssI,sbI,spI,swI,scI,stI,srI,saI,snI,res9,b9k17,b9k18, ↓reduceIte,reduceCtorEq,Nat.reduceEqDiff,Nat.reduceAdd,Nat.reduceMul,Nat.reduceSub,Nat.reduceLeDiff,Nat.reduceBEq,Int.reduceToNat,Int.reduceLE,Int.reduceLT,Int.reduceEq,Int.reduceNe,di]
 exact go
theorem sw_lines {r:Ru} {p:Pl} {v:Cv} {C:List Int} (hR:RuB r) (hr:Sg.Good r) (hp:PlanOk p) (hv:coverE v=0) (h2:p.ch.length≤2) (ht:p.ticks≤12) (hC : 14≤C.length∧C.length≤40) (hC64:∀ n ∈ C,In64 n) (hpa:v.parts≤2) :
  run Tryz.prog b9k17 [] (d9.post (.bool true)) (mkS [(3,.ref 3 0),(4,.ref 4 0),(5,.ref 5 0)]
   [(3,.box (ruC r)),(4,.box (spC p)),(5,.box (dayC v C))]):=by
 have go:=sw_cover (r:=r) (p:=p) (v:=v) (C:=C) hr hp hv h2 ht hC hC64 hpa
 have fo:=s_FormatRules hR
 have hpr:=s_ParseRules (s:=fmtR r) (by
  rw [← fmt_sum,bs_size]
  simp only [List.length_append,List.length_singleton]
  have l1:=itoa_len hR.I
  have l2:=itoa_len hR.A
  have l3:=itoa_len hR.lo
  have l4:=itoa_len hR.hi
  have l5:=itoa_len hR.T
  omega)
 rw [parse_fmt (rules_ok.2 hr)] at hpr
 simp only [ruC,spC,dayC,scCells,List.cons_append,List.nil_append] at go
 simp only [b9k17,res9,b9k18,ruC,spC,dayC,scCells,List.cons_append,List.nil_append,ruI,ssI,sbI,spI,swI,scI,stI,srI,saI,snI, ↓reduceIte,reduceCtorEq,Nat.reduceEqDiff,Nat.reduceAdd,Nat.reduceMul,Nat.reduceSub,Nat.reduceLeDiff,Nat.reduceBEq,Int.reduceToNat,Int.reduceLE,Int.reduceLT,Int.reduceEq,Int.reduceNe,di]
 refine calls_of fo ?_; simp only [ruI,ssI,sbI,spI,swI,scI,stI,srI,saI,snI,res9,b9k18, ↓reduceIte,reduceCtorEq,Nat.reduceEqDiff,Nat.reduceAdd,Nat.reduceMul,Nat.reduceSub,Nat.reduceLeDiff,Nat.reduceBEq,Int.reduceToNat,Int.reduceLE,Int.reduceLT,Int.reduceEq,Int.reduceNe,di]
 refine calls_of hpr ?_; simp only [ruI,ssI,sbI,spI,swI,scI,stI,srI,saI,snI,res9,b9k18, ↓reduceIte,reduceCtorEq,Nat.reduceEqDiff,Nat.reduceAdd,Nat.reduceMul,Nat.reduceSub,Nat.reduceLeDiff,Nat.reduceBEq,Int.reduceToNat,Int.reduceLE,Int.reduceLT,Int.reduceEq,Int.reduceNe,di]
 exact go
theorem s_shown:Contract Tryz.prog 67 [] (.bool true):=by
 refine contract_run Tryz.func67 k67 rfl ?_
 simp only [body67,b67,res67,ruI,ssI,sbI,spI,swI,scI,stI,srI,saI,snI, ↓reduceIte,reduceCtorEq,Nat.reduceEqDiff,Nat.reduceAdd,Nat.reduceMul,Nat.reduceSub,Nat.reduceLeDiff,Nat.reduceBEq,Int.reduceToNat,Int.reduceLE,Int.reduceLT,Int.reduceEq,Int.reduceNe,di]
 refine calls_of s_lawRules ?_; simp only [ruI,ssI,sbI,spI,swI,scI,stI,srI,saI,snI,res67, ↓reduceIte,reduceCtorEq,Nat.reduceEqDiff,Nat.reduceAdd,Nat.reduceMul,Nat.reduceSub,Nat.reduceLeDiff,Nat.reduceBEq,Int.reduceToNat,Int.reduceLE,Int.reduceLT,Int.reduceEq,Int.reduceNe,di]
 refine calls_of s_awake1 ?_; simp only [ruI,ssI,sbI,spI,swI,scI,stI,srI,saI,snI,res67, ↓reduceIte,reduceCtorEq,Nat.reduceEqDiff,Nat.reduceAdd,Nat.reduceMul,Nat.reduceSub,Nat.reduceLeDiff,Nat.reduceBEq,Int.reduceToNat,Int.reduceLE,Int.reduceLT,Int.reduceEq,Int.reduceNe,di]
 refine calls_of s_lawRules ?_; simp only [ruI,ssI,sbI,spI,swI,scI,stI,srI,saI,snI,res67, ↓reduceIte,reduceCtorEq,Nat.reduceEqDiff,Nat.reduceAdd,Nat.reduceMul,Nat.reduceSub,Nat.reduceLeDiff,Nat.reduceBEq,Int.reduceToNat,Int.reduceLE,Int.reduceLT,Int.reduceEq,Int.reduceNe,di]
 refine calls_of s_lawDrop ?_; simp only [ruI,ssI,sbI,spI,swI,scI,stI,srI,saI,snI,res67, ↓reduceIte,reduceCtorEq,Nat.reduceEqDiff,Nat.reduceAdd,Nat.reduceMul,Nat.reduceSub,Nat.reduceLeDiff,Nat.reduceBEq,Int.reduceToNat,Int.reduceLE,Int.reduceLT,Int.reduceEq,Int.reduceNe,di]
 refine calls_of s_awake5 ?_; simp only [ruI,ssI,sbI,spI,swI,scI,stI,srI,saI,snI,res67, ↓reduceIte,reduceCtorEq,Nat.reduceEqDiff,Nat.reduceAdd,Nat.reduceMul,Nat.reduceSub,Nat.reduceLeDiff,Nat.reduceBEq,Int.reduceToNat,Int.reduceLE,Int.reduceLT,Int.reduceEq,Int.reduceNe,di]
theorem l_TopSurgeWorst {r:Ru} {p:Pl} {v:Cv} {C:List Int} (hR:RuB r) (hC64:∀ n ∈ C,In64 n):Contract Tryz.prog 9 [ruI r,spI p,.agg [.int .i64 v.b.ll,.int .i64 v.b.lh,.int .i64 v.b.fl,.int .i64 v.b.fh,.int .i64 v.parts,.int .i64 v.lo,.int .i64 v.hi,snI C]] (.bool true):=by
 refine contract_run Tryz.func9 k9 rfl ?_
 simp only [body9,b9,res9,ruI,ssI,sbI,spI,swI,scI,stI,srI,saI,snI, ↓reduceIte,reduceCtorEq,Nat.reduceEqDiff,Nat.reduceAdd,Nat.reduceMul,Nat.reduceSub,Nat.reduceLeDiff,Nat.reduceBEq,Int.reduceToNat,Int.reduceLE,Int.reduceLT,Int.reduceEq,Int.reduceNe,di]
 refine calls_of s_shown ?_; simp only [ruI,ssI,sbI,spI,swI,scI,stI,srI,saI,snI,res9, ↓reduceIte,reduceCtorEq,Nat.reduceEqDiff,Nat.reduceAdd,Nat.reduceMul,Nat.reduceSub,Nat.reduceLeDiff,Nat.reduceBEq,Int.reduceToNat,Int.reduceLE,Int.reduceLT,Int.reduceEq,Int.reduceNe,di]
 simp only [b9k18,ruI,ssI,sbI,spI,swI,scI,stI,srI,saI,snI, ↓reduceIte,reduceCtorEq,Nat.reduceEqDiff,Nat.reduceAdd,Nat.reduceMul,Nat.reduceSub,Nat.reduceLeDiff,Nat.reduceBEq,Int.reduceToNat,Int.reduceLE,Int.reduceLT,Int.reduceEq,Int.reduceNe,di]
 refine calls_of r_PlanErr0 ?_; simp only [ruI,ssI,sbI,spI,swI,scI,stI,srI,saI,snI,res9, ↓reduceIte,reduceCtorEq,Nat.reduceEqDiff,Nat.reduceAdd,Nat.reduceMul,Nat.reduceSub,Nat.reduceLeDiff,Nat.reduceBEq,Int.reduceToNat,Int.reduceLE,Int.reduceLT,Int.reduceEq,Int.reduceNe,di]
 by_cases hE:(planEr r p).2=0
 case neg =>
  simp only [hE,ruI,ssI,sbI,spI,swI,scI,stI,srI,saI,snI, ↓reduceIte,reduceCtorEq,Nat.reduceEqDiff,Nat.reduceAdd,Nat.reduceMul,Nat.reduceSub,Nat.reduceLeDiff,Nat.reduceBEq,Int.reduceToNat,Int.reduceLE,Int.reduceLT,Int.reduceEq,Int.reduceNe,di]
  all_goals (rw [if_neg (fun k=>k.1)]; trivial)
 simp only [hE,ruI,ssI,sbI,spI,swI,scI,stI,srI,saI,snI, ↓reduceIte,reduceCtorEq,Nat.reduceEqDiff,Nat.reduceAdd,Nat.reduceMul,Nat.reduceSub,Nat.reduceLeDiff,Nat.reduceBEq,Int.reduceToNat,Int.reduceLE,Int.reduceLT,Int.reduceEq,Int.reduceNe,di]
 by_cases h1 : 2<(p.ch.length:Int)
 ·simp only [h1,ruI,ssI,sbI,spI,swI,scI,stI,srI,saI,snI, ↓reduceIte,reduceCtorEq,Nat.reduceEqDiff,Nat.reduceAdd,Nat.reduceMul,Nat.reduceSub,Nat.reduceLeDiff,Nat.reduceBEq,Int.reduceToNat,Int.reduceLE,Int.reduceLT,Int.reduceEq,Int.reduceNe,di]
  all_goals (rw [if_neg (fun k=>k.1)]; trivial)
 simp only [h1,ruI,ssI,sbI,spI,swI,scI,stI,srI,saI,snI, ↓reduceIte,reduceCtorEq,Nat.reduceEqDiff,Nat.reduceAdd,Nat.reduceMul,Nat.reduceSub,Nat.reduceLeDiff,Nat.reduceBEq,Int.reduceToNat,Int.reduceLE,Int.reduceLT,Int.reduceEq,Int.reduceNe,di]
 by_cases h2 : 12<p.ticks
 ·simp only [h2,ruI,ssI,sbI,spI,swI,scI,stI,srI,saI,snI, ↓reduceIte,reduceCtorEq,Nat.reduceEqDiff,Nat.reduceAdd,Nat.reduceMul,Nat.reduceSub,Nat.reduceLeDiff,Nat.reduceBEq,Int.reduceToNat,Int.reduceLE,Int.reduceLT,Int.reduceEq,Int.reduceNe,di]
  all_goals (rw [if_neg (fun k=>k.1)]; trivial)
 simp only [h2,ruI,ssI,sbI,spI,swI,scI,stI,srI,saI,snI, ↓reduceIte,reduceCtorEq,Nat.reduceEqDiff,Nat.reduceAdd,Nat.reduceMul,Nat.reduceSub,Nat.reduceLeDiff,Nat.reduceBEq,Int.reduceToNat,Int.reduceLE,Int.reduceLT,Int.reduceEq,Int.reduceNe,di]
 refine calls_of r_CoverErr ?_; simp only [ruI,ssI,sbI,spI,swI,scI,stI,srI,saI,snI,res9, ↓reduceIte,reduceCtorEq,Nat.reduceEqDiff,Nat.reduceAdd,Nat.reduceMul,Nat.reduceSub,Nat.reduceLeDiff,Nat.reduceBEq,Int.reduceToNat,Int.reduceLE,Int.reduceLT,Int.reduceEq,Int.reduceNe,di]
 by_cases hv:coverE v=0
 case neg =>
  simp only [hv,ruI,ssI,sbI,spI,swI,scI,stI,srI,saI,snI, ↓reduceIte,reduceCtorEq,Nat.reduceEqDiff,Nat.reduceAdd,Nat.reduceMul,Nat.reduceSub,Nat.reduceLeDiff,Nat.reduceBEq,Int.reduceToNat,Int.reduceLE,Int.reduceLT,Int.reduceEq,Int.reduceNe,di]
  all_goals (rw [if_neg (fun k=>k.1)]; trivial)
 simp only [hv,ruI,ssI,sbI,spI,swI,scI,stI,srI,saI,snI, ↓reduceIte,reduceCtorEq,Nat.reduceEqDiff,Nat.reduceAdd,Nat.reduceMul,Nat.reduceSub,Nat.reduceLeDiff,Nat.reduceBEq,Int.reduceToNat,Int.reduceLE,Int.reduceLT,Int.reduceEq,Int.reduceNe,di]
 by_cases h3 : 2<v.parts
 ·simp only [h3,ruI,ssI,sbI,spI,swI,scI,stI,srI,saI,snI, ↓reduceIte,reduceCtorEq,Nat.reduceEqDiff,Nat.reduceAdd,Nat.reduceMul,Nat.reduceSub,Nat.reduceLeDiff,Nat.reduceBEq,Int.reduceToNat,Int.reduceLE,Int.reduceLT,Int.reduceEq,Int.reduceNe,di]
  all_goals (rw [if_neg (fun k=>k.1)]; trivial)
 simp only [h3,ruI,ssI,sbI,spI,swI,scI,stI,srI,saI,snI, ↓reduceIte,reduceCtorEq,Nat.reduceEqDiff,Nat.reduceAdd,Nat.reduceMul,Nat.reduceSub,Nat.reduceLeDiff,Nat.reduceBEq,Int.reduceToNat,Int.reduceLE,Int.reduceLT,Int.reduceEq,Int.reduceNe,di]
 refine calls_of (r_Count (b:=v.b) (coverE_zero.1 hv).1) ?_; simp only [ruI,ssI,sbI,spI,swI,scI,stI,srI,saI,snI,res9, ↓reduceIte,reduceCtorEq,Nat.reduceEqDiff,Nat.reduceAdd,Nat.reduceMul,Nat.reduceSub,Nat.reduceLeDiff,Nat.reduceBEq,Int.reduceToNat,Int.reduceLE,Int.reduceLT,Int.reduceEq,Int.reduceNe,di]
 obtain ⟨hr,hp⟩:=planEr_zero.1 hE
 have go:=fun hC=>sw_lines (r:=r) (p:=p) (v:=v) (C:=C) hR hr hp hv (by omega) (by omega) hC hC64 (by omega)
 simp only [ruC,spC,dayC,scCells,List.cons_append,List.nil_append] at go
 by_cases h4 : 100<countB v.b
 ·simp only [h4,ruI,ssI,sbI,spI,swI,scI,stI,srI,saI,snI, ↓reduceIte,reduceCtorEq,Nat.reduceEqDiff,Nat.reduceAdd,Nat.reduceMul,Nat.reduceSub,Nat.reduceLeDiff,Nat.reduceBEq,Int.reduceToNat,Int.reduceLE,Int.reduceLT,Int.reduceEq,Int.reduceNe,di]
  all_goals (rw [if_neg (fun k=>k.1)]; trivial)
 simp only [h4,ruI,ssI,sbI,spI,swI,scI,stI,srI,saI,snI, ↓reduceIte,reduceCtorEq,Nat.reduceEqDiff,Nat.reduceAdd,Nat.reduceMul,Nat.reduceSub,Nat.reduceLeDiff,Nat.reduceBEq,Int.reduceToNat,Int.reduceLE,Int.reduceLT,Int.reduceEq,Int.reduceNe,di]
 by_cases h5:(C.length:Int)<14
 ·simp only [h5,ruI,ssI,sbI,spI,swI,scI,stI,srI,saI,snI, ↓reduceIte,reduceCtorEq,Nat.reduceEqDiff,Nat.reduceAdd,Nat.reduceMul,Nat.reduceSub,Nat.reduceLeDiff,Nat.reduceBEq,Int.reduceToNat,Int.reduceLE,Int.reduceLT,Int.reduceEq,Int.reduceNe,di]
  all_goals (rw [if_neg (fun k=>k.1)]; trivial)
 simp only [h5,ruI,ssI,sbI,spI,swI,scI,stI,srI,saI,snI, ↓reduceIte,reduceCtorEq,Nat.reduceEqDiff,Nat.reduceAdd,Nat.reduceMul,Nat.reduceSub,Nat.reduceLeDiff,Nat.reduceBEq,Int.reduceToNat,Int.reduceLE,Int.reduceLT,Int.reduceEq,Int.reduceNe,di]
 by_cases h6 : 40<(C.length:Int)
 ·simp only [h6,ruI,ssI,sbI,spI,swI,scI,stI,srI,saI,snI, ↓reduceIte,reduceCtorEq,Nat.reduceEqDiff,Nat.reduceAdd,Nat.reduceMul,Nat.reduceSub,Nat.reduceLeDiff,Nat.reduceBEq,Int.reduceToNat,Int.reduceLE,Int.reduceLT,Int.reduceEq,Int.reduceNe,di]
  all_goals (rw [if_neg (fun k=>k.1)]; trivial)
 simp only [h6,ruI,ssI,sbI,spI,swI,scI,stI,srI,saI,snI, ↓reduceIte,reduceCtorEq,Nat.reduceEqDiff,Nat.reduceAdd,Nat.reduceMul,Nat.reduceSub,Nat.reduceLeDiff,Nat.reduceBEq,Int.reduceToNat,Int.reduceLE,Int.reduceLT,Int.reduceEq,Int.reduceNe,di]
 exact go ⟨by omega,by omega⟩
end Go.DI


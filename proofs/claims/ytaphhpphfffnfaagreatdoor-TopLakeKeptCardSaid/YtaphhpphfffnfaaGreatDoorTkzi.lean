/- The functions of the statements, as data. No condition. -/
import Derived.Test.YtaphhpphfffnfaaGreatDoorTkGe
import Derived.Test.YtaphhpphfffnfaaGreatDoorProg
import Derived.KernelRfl
import Derived.Test.YtaphhpphfffnfaaGreatDoorTkza
import Derived.Test.YtaphhpphfffnfaaGreatDoorTkzh
/- The functions of the statements, as data. No condition. -/
namespace Go.DI
open Go.Proofs Go.RowKit
def b43:DCode :=
 (.seq
 (.region [⟨some 1,.box,[.t 0],none,[]⟩,
 ⟨some 2,.mov,[.c (.bool false)],none,[]⟩] false)
 (.seq
 (.region [⟨some 3,(.faddr 0 true 1),[.t 1],none,[]⟩,
 ⟨some 4,(.load true 1),[.t 3],none,[0]⟩,
 ⟨some 5,.call,[.f 26,.t 4],none,[1]⟩,
 ⟨some 6,.mov,[.t 5],none,[2,2]⟩,
 ⟨some 7,(.faddr 1 true 1),[.t 1],(some (6,true)),[3]⟩,
 ⟨some 8,(.load true 1),[.t 7],(some (6,true)),[4,3]⟩,
 ⟨some 9,.call,[.f 26,.t 8],(some (6,true)),[5,3,3]⟩,
 ⟨some 10,.pick,[.t 6,.t 9,.c (.bool false)],none,[3,6]⟩,
 ⟨some 2,.mov,[.t 10],none,[7,6,0,1,2,3,4,5,6,7]⟩] false)
 .ret))
def d43:DFn:=⟨1,11,[.tmp 2],b43⟩
theorem body43:d43.body=b43:=rfl
theorem res43:d43.res=[.tmp 2]:=rfl
theorem k43:chkFn Tryz.prog Tryz.f43 d43=true:=by kernel_rfl
def b26:DCode :=
 (.seq
 (.region [⟨some 1,.box,[.t 0],none,[]⟩,
 ⟨some 2,.mov,[.c (.bool false)],none,[]⟩] false)
 (.seq
 (.region [⟨some 3,(.faddr 0 false 1),[.t 1],none,[]⟩,
 ⟨some 4,(.load false 1),[.t 3],none,[0]⟩,
 ⟨some 5,.len,[.t 4],none,[1]⟩,
 ⟨some 6,(.bin .leq),[.t 5,.c (.int .i64 12)],none,[2]⟩,
 ⟨some 2,.mov,[.t 6],none,[3,0,1,2,3]⟩] false)
 .ret))
def d26:DFn:=⟨1,7,[.tmp 2],b26⟩
theorem body26:d26.body=b26:=rfl
theorem res26:d26.res=[.tmp 2]:=rfl
theorem k26:chkFn Tryz.prog Tryz.f26 d26=true:=by kernel_rfl
def b112:DCode :=
 (.seq
 (.region [⟨some 0,(.alloc [(.imm (.slc 2 []))]),[],none,[]⟩] false)
 (.seq
 (.region [⟨some 1,(.build [(.imm (.int .i64 0)),(.imm (.int .i64 0))] []),[],none,[]⟩,
 ⟨some 2,(.build [(.imm (.int .i64 0)),(.imm (.int .i64 0))] [(0,1),(1,1)]),[.c (.int .i64 100),.c (.int .i64 1000)],none,[]⟩,
 ⟨some 3,(.build [(.imm (.int .i64 0)),(.imm (.int .i64 0))] [(0,1),(1,1)]),[.c (.int .i64 200),.c (.int .i64 3000)],none,[]⟩,
 ⟨some 4,(.bsl 2),[.t 1,.t 2,.t 3],none,[0,1,2]⟩,
 ⟨some 5,(.build [(.imm (.slc 2 []))] [(0,1)]),[.t 4],none,[3]⟩,
 ⟨none,(.store 1),[.t 0,.t 5],none,[4,0,1,2,3,4]⟩] false)
 .ret))
def d112:DFn:=⟨0,6,[.cell 0 true 1],b112⟩
theorem body112:d112.body=b112:=rfl
theorem res112:d112.res=[.cell 0 true 1]:=rfl
theorem k112:chkFn Tryz.prog Tryz.f112 d112=true:=by kernel_rfl
def b114:DCode :=
 (.seq
 (.region [⟨some 0,(.alloc [(.imm (.slc 2 [])),(.imm (.slc 2 [])),(.imm (.int .i64 0))]),[],none,[]⟩] false)
 (.seq
 (.region [⟨some 1,.call,[.f 112],none,[]⟩,
 ⟨some 2,.call,[.f 112],none,[0]⟩,
 ⟨some 3,(.build [(.imm (.slc 2 [])),(.imm (.slc 2 [])),(.imm (.int .i64 0))] [(0,1),(1,1),(2,1)]),[.t 1,.t 2,.c (.int .i64 500)],none,[0,1]⟩,
 ⟨none,(.store 3),[.t 0,.t 3],none,[2,1,0,1,2]⟩] false)
 .ret))
def d114:DFn:=⟨0,4,[.cell 0 true 3],b114⟩
theorem body114:d114.body=b114:=rfl
theorem res114:d114.res=[.cell 0 true 3]:=rfl
theorem k114:chkFn Tryz.prog Tryz.f114 d114=true:=by kernel_rfl
end Go.DI

/- Contracts: the statements' examples and limits. No condition. -/
set_option linter.unusedSimpArgs false
namespace Go.DI
open Go.Proofs Go.RowKit Lk
def tabA:List Kn:=[(0,0),(100,1000),(200,3000)]
def pairA:Pair:=⟨tabA,tabA,500⟩
theorem l_Table:Contract Tryz.prog 112 [] (tabI tabA):=by
  refine contract_run Tryz.func112 k112 rfl ?_
  simp only [body112,b112,res112,lkE, ↓reduceIte,reduceCtorEq,Nat.reduceEqDiff,Nat.reduceAdd,Nat.reduceMul,Nat.reduceSub,Nat.reduceLeDiff,Nat.reduceBEq,Int.reduceToNat,Int.reduceLE,Int.reduceLT,Int.reduceEq,Int.reduceNe,di]
  rfl
theorem l_Pair:Contract Tryz.prog 114 [] (lpI pairA):=by
  refine contract_run Tryz.func114 k114 rfl ?_
  simp only [body114,b114,res114,lkE, ↓reduceIte,reduceCtorEq,Nat.reduceEqDiff,Nat.reduceAdd,Nat.reduceMul,Nat.reduceSub,Nat.reduceLeDiff,Nat.reduceBEq,Int.reduceToNat,Int.reduceLE,Int.reduceLT,Int.reduceEq,Int.reduceNe,di]
  refine calls_of l_Table ?_; simp only [lkE,res114, ↓reduceIte,reduceCtorEq,Nat.reduceEqDiff,Nat.reduceAdd,Nat.reduceMul,Nat.reduceSub,Nat.reduceLeDiff,Nat.reduceBEq,Int.reduceToNat,Int.reduceLE,Int.reduceLT,Int.reduceEq,Int.reduceNe,di]
  refine calls_of l_Table ?_; simp only [lkE,res114, ↓reduceIte,reduceCtorEq,Nat.reduceEqDiff,Nat.reduceAdd,Nat.reduceMul,Nat.reduceSub,Nat.reduceLeDiff,Nat.reduceBEq,Int.reduceToNat,Int.reduceLE,Int.reduceLT,Int.reduceEq,Int.reduceNe,di]
  rfl
theorem l_Few {l:List Kn}:Contract Tryz.prog 26 [tabI l] (.bool (decide (l.length≤12))):=by
  refine contract_run Tryz.func26 k26 rfl ?_
  simp only [body26,b26,res26,lkE, ↓reduceIte,reduceCtorEq,Nat.reduceEqDiff,Nat.reduceAdd,Nat.reduceMul,Nat.reduceSub,Nat.reduceLeDiff,Nat.reduceBEq,Int.reduceToNat,Int.reduceLE,Int.reduceLT,Int.reduceEq,Int.reduceNe,di]
  congr 3
  apply propext; omega
theorem l_FewPair {p:Pair}:Contract Tryz.prog 43 [lpI p] (.bool (decide (p.u.length≤12∧p.l.length≤12))):=by
  refine contract_run Tryz.func43 k43 rfl ?_
  simp only [body43,b43,res43,lkE, ↓reduceIte,reduceCtorEq,Nat.reduceEqDiff,Nat.reduceAdd,Nat.reduceMul,Nat.reduceSub,Nat.reduceLeDiff,Nat.reduceBEq,Int.reduceToNat,Int.reduceLE,Int.reduceLT,Int.reduceEq,Int.reduceNe,di]
  refine calls_of l_Few ?_; simp only [lkE,res43, ↓reduceIte,reduceCtorEq,Nat.reduceEqDiff,Nat.reduceAdd,Nat.reduceMul,Nat.reduceSub,Nat.reduceLeDiff,Nat.reduceBEq,Int.reduceToNat,Int.reduceLE,Int.reduceLT,Int.reduceEq,Int.reduceNe,di]
  split
  · rename_i h
    refine calls_of l_Few ?_; simp only [lkE,res43, ↓reduceIte,reduceCtorEq,Nat.reduceEqDiff,Nat.reduceAdd,Nat.reduceMul,Nat.reduceSub,Nat.reduceLeDiff,Nat.reduceBEq,Int.reduceToNat,Int.reduceLE,Int.reduceLT,Int.reduceEq,Int.reduceNe,di]
    simp [h]
  · rename_i h
    simp [h]
theorem sm_A:Sm pairA:=⟨by decide,by decide⟩
end Go.DI

/- The statement LakeTableStrings: what it computes. No condition. -/
set_option linter.unusedSimpArgs false
set_option maxRecDepth 100000
namespace Go.DI
open Go.Proofs Go.RowKit Go.Lib Lk
theorem fmtRows_size {rows:List (List Int)} (h:RowsB rows) (hl:rows.length≤800):(fmtRows rows).size≤60000:=by
  have:=join_len (c:=59) (B:=66) (l:=rows.map rowW) (fun w hw=>by
    obtain ⟨r,hr,rfl⟩:=List.mem_map.1 hw
    exact rowW_len (h.row r hr))
  rw [List.length_map] at this
  unfold fmtRows
  rw [bs_size]
  omega
theorem kn_rt (l:List Kn):(l.map knR).map knOf=l:=by
  rw [List.map_map]
  conv=>rhs; rw [← List.map_id l]
  rfl
theorem fl_rt (l:List Flow):(l.map flR).map flOf=l:=by
  rw [List.map_map]
  conv=>rhs; rw [← List.map_id l]
  rfl
theorem parse_tab {l:List Kn} (hb:KnB l) (h:Valid l):parseTab (fmtT l)=(l,0):=by
  have h2:=h.two
  have h10:=h.ten
  have hs:=fmtRows_size (kn_rows hb (by omega)) (by rw [List.length_map]; omega)
  have hr:=rows_fmt (n:=2) (k:=9) (sg:=sgF (-1)) (rows:=l.map knR) (by
      intro e
      have:=congrArg List.length e
      rw [List.length_map,List.length_nil] at this
      omega) (by decide) (by
    intro r hr
    obtain ⟨x,hx,rfl⟩:=List.mem_map.1 hr
    obtain ⟨i,hi,e⟩:=List.getElem_of_mem hx
    have hk:=h.range hi
    have hkx:kn l i=x:=by
      show l.getD i default=x
      rw [List.getD_eq_getElem?_getD,List.getElem?_eq_getElem hi,e]; rfl
    rw [hkx] at hk
    refine ⟨rfl,fun j hj => ?_⟩
    match j,hj with
    | 0,_=>exact ⟨by show x.1.natAbs<10000000000; omega,.inr hk.1⟩
    | 1,_=>exact ⟨by show x.2.natAbs<10000000000; omega,.inr hk.2.2.1⟩)
  unfold parseTab
  rw [if_neg (show ¬ 60000<(fmtT l).size from Nat.not_lt.2 hs)]
  show tabR (parseRows 2 (9+1) (sgF (-1)) (fmtRows (l.map knR)))=_
  rw [hr]
  show (if (chkT ((l.map knR).map knOf)).2=0 then ((l.map knR).map knOf,(0:Int)) else ([],(chkT ((l.map knR).map knOf)).2))=_
  rw [kn_rt,if_pos (chkT_ok.2 h)]
end Go.DI

/- The statement LakeFlowStrings: what it computes. No condition. -/
set_option linter.unusedSimpArgs false
set_option maxRecDepth 100000
namespace Go.DI
open Go.Proofs Go.RowKit Go.Lib Lk
theorem parse_fl {l:List Flow} (hb:FlB l) (h:listErr l=0):parseFl (fmtF l)=(l,0):=by
  obtain ⟨h1,h2⟩:=listErr_ok.1 h
  have hs:=fmtRows_size (fl_rows hb (by omega)) (by rw [List.length_map]; omega)
  unfold parseFl
  rw [if_neg (show ¬ 60000<(fmtF l).size from Nat.not_lt.2 hs)]
  by_cases hl:l=[]
  · subst hl
    rfl
  have hne:l.map flR ≠ []:=by
    intro e
    exact hl (List.map_eq_nil_iff.1 e)
  have hr:=rows_fmt (n:=3) (k:=7) (sg:=sgF 2) (rows:=l.map flR) hne (by decide) (by
    intro r hr
    obtain ⟨x,hx,rfl⟩:=List.mem_map.1 hr
    have hk:=h2 x hx
    unfold flowOk Wi at hk
    refine ⟨rfl,fun j hj => ?_⟩
    match j,hj with
    | 0,_=>exact ⟨by show x.up.natAbs<100000000; omega,.inr hk.1.1⟩
    | 1,_=>exact ⟨by show x.low.natAbs<100000000; omega,.inr hk.2.1.1⟩
    | 2,_=>exact ⟨by show x.ex.natAbs<100000000; omega,.inl rfl⟩)
  have hn:¬ fmtF l=⟨#[]⟩:=by
    intro e
    have hc:=cut_rows hne
    rw [show fmtRows (l.map flR)=⟨#[]⟩ from e] at hc
    have hr2:=hr
    rw [show fmtRows (l.map flR)=⟨#[]⟩ from e] at hr2
    have:parseRows 3 (7+1) (sgF 2) ⟨#[]⟩=none:=by
      unfold parseRows
      rw [if_neg]
      decide
    rw [this] at hr2
    cases hr2
  rw [if_neg hn]
  show flwR (parseRows 3 (7+1) (sgF 2) (fmtRows (l.map flR)))=_
  rw [hr]
  show (if listErr ((l.map flR).map flOf)=0 then ((l.map flR).map flOf,(0:Int)) else ([],listErr ((l.map flR).map flOf)))=_
  rw [fl_rt,if_pos h]
end Go.DI


/- Contracts: the program's steps, runs and usable volumes, as it hands them out. No condition. -/
import Derived.Test.YtaphhpphfffnfaaGreatDoorTkt
set_option linter.unusedSimpArgs false
namespace Go.DI
open Go.Proofs Go.RowKit Lk
def stepE (p:Pair) (s:Sta) (x:Flow):Int:=if bothErr p s=0 then flowErr x else bothErr p s
def stepO (p:Pair) (s:Sta) (x:Flow):Sta × (Int × Int) × Int :=
  if stepE p s x=0 then
    match Lk.step p s x with
    | some (t,e,f)=>(t,(e,f),0)
    | none=>((0,0),(0,0),22)
  else ((0,0),(0,0),stepE p s x)
def outI (r:Sta × (Int × Int) × Int):IV:=.tup [.agg [.int .i64 r.1.1,.int .i64 r.1.2],.agg [.int .i64 r.2.1.1,.int .i64 r.2.1.2],.int .i64 r.2.2]
theorem bothErr_ok {p:Pair} {s:Sta}:bothErr p s=0↔VPair p∧stOk p s:=by
  unfold bothErr
  constructor
  · intro h
    split at h
    · rename_i h1
      split at h
      · rename_i h2; exact ⟨pairErr_ok.1 h1,h2⟩
      · omega
    · contradiction
  · intro ⟨h1,h2⟩
    rw [if_pos (pairErr_ok.2 h1),if_pos h2]
theorem flowErr_ok {x:Flow}:flowErr x=0↔flowOk x:=by
  unfold flowErr
  split
  · rename_i h; simp [h]
  · rename_i h; simp [h]
theorem p_Step {p:Pair} {s:Sta} {x:Flow} (h:Sm p):Contract Tryz.prog 113 [lpI p,stI s,flI x] (outI (stepO p s x)):=by
  unfold stepO
  refine contract_run Tryz.func113 k113 rfl ?_
  simp only [body113,b113,res113,b113k0,lkE, ↓reduceIte,reduceCtorEq,Nat.reduceEqDiff,Nat.reduceAdd,Nat.reduceMul,Nat.reduceSub,Nat.reduceLeDiff,Nat.reduceBEq,Int.reduceToNat,Int.reduceLE,Int.reduceLT,Int.reduceEq,Int.reduceNe,di]
  refine calls_of (p_openState h) ?_; simp only [lkE,res113,b113k0, ↓reduceIte,reduceCtorEq,Nat.reduceEqDiff,Nat.reduceAdd,Nat.reduceMul,Nat.reduceSub,Nat.reduceLeDiff,Nat.reduceBEq,Int.reduceToNat,Int.reduceLE,Int.reduceLT,Int.reduceEq,Int.reduceNe,di]
  refine calls_of p_flowsErr ?_; simp only [lkE,res113,b113k0, ↓reduceIte,reduceCtorEq,Nat.reduceEqDiff,Nat.reduceAdd,Nat.reduceMul,Nat.reduceSub,Nat.reduceLeDiff,Nat.reduceBEq,Int.reduceToNat,Int.reduceLE,Int.reduceLT,Int.reduceEq,Int.reduceNe,di]
  refine calls_of p_first2 ?_; simp only [lkE,res113,b113k0, ↓reduceIte,reduceCtorEq,Nat.reduceEqDiff,Nat.reduceAdd,Nat.reduceMul,Nat.reduceSub,Nat.reduceLeDiff,Nat.reduceBEq,Int.reduceToNat,Int.reduceLE,Int.reduceLT,Int.reduceEq,Int.reduceNe,di]
  unfold stepE
  by_cases h0:bothErr p s=0
  · simp only [if_pos h0]
    have hv:=bothErr_ok.1 h0
    by_cases h1:flowErr x=0
    · simp only [if_pos h1,lkE, ↓reduceIte,reduceCtorEq,Nat.reduceEqDiff,Nat.reduceAdd,Nat.reduceMul,Nat.reduceSub,Nat.reduceLeDiff,Nat.reduceBEq,Int.reduceToNat,Int.reduceLE,Int.reduceLT,Int.reduceEq,Int.reduceNe,di]
      refine calls_of (p_step hv.1 hv.2 (flowErr_ok.1 h1)) ?_; simp only [lkE,res113,b113k0, ↓reduceIte,reduceCtorEq,Nat.reduceEqDiff,Nat.reduceAdd,Nat.reduceMul,Nat.reduceSub,Nat.reduceLeDiff,Nat.reduceBEq,Int.reduceToNat,Int.reduceLE,Int.reduceLT,Int.reduceEq,Int.reduceNe,di]
      cases hst:Lk.step p s x with
      | none =>
        simp only [stepI,res113,b113k0,lkE, ↓reduceIte,reduceCtorEq,Nat.reduceEqDiff,Nat.reduceAdd,Nat.reduceMul,Nat.reduceSub,Nat.reduceLeDiff,Nat.reduceBEq,Int.reduceToNat,Int.reduceLE,Int.reduceLT,Int.reduceEq,Int.reduceNe,di]
        refine calls_of p_unless ?_; simp only [lkE,res113,b113k0, ↓reduceIte,reduceCtorEq,Nat.reduceEqDiff,Nat.reduceAdd,Nat.reduceMul,Nat.reduceSub,Nat.reduceLeDiff,Nat.reduceBEq,Int.reduceToNat,Int.reduceLE,Int.reduceLT,Int.reduceEq,Int.reduceNe,di]
        rfl
      | some r =>
        obtain ⟨t,e,f⟩:=r
        simp only [stepI,res113,b113k0,lkE, ↓reduceIte,reduceCtorEq,Nat.reduceEqDiff,Nat.reduceAdd,Nat.reduceMul,Nat.reduceSub,Nat.reduceLeDiff,Nat.reduceBEq,Int.reduceToNat,Int.reduceLE,Int.reduceLT,Int.reduceEq,Int.reduceNe,di]
        refine calls_of p_unless ?_; simp only [lkE,res113,b113k0, ↓reduceIte,reduceCtorEq,Nat.reduceEqDiff,Nat.reduceAdd,Nat.reduceMul,Nat.reduceSub,Nat.reduceLeDiff,Nat.reduceBEq,Int.reduceToNat,Int.reduceLE,Int.reduceLT,Int.reduceEq,Int.reduceNe,di]
        rfl
    · simp only [if_neg h1,lkE, ↓reduceIte,reduceCtorEq,Nat.reduceEqDiff,Nat.reduceAdd,Nat.reduceMul,Nat.reduceSub,Nat.reduceLeDiff,Nat.reduceBEq,Int.reduceToNat,Int.reduceLE,Int.reduceLT,Int.reduceEq,Int.reduceNe,di]
      rfl
  · simp only [if_neg h0,lkE, ↓reduceIte,reduceCtorEq,Nat.reduceEqDiff,Nat.reduceAdd,Nat.reduceMul,Nat.reduceSub,Nat.reduceLeDiff,Nat.reduceBEq,Int.reduceToNat,Int.reduceLE,Int.reduceLT,Int.reduceEq,Int.reduceNe,di]
    rfl
theorem st_snoc {l:List Sta} {a b:Int}:l.map stI ++ [IV.agg [.int .i64 a,.int .i64 b]]=(l ++ [(a,b)]).map stI:=by simp [stI]
def listErr (l:List Flow):Int:=if 200<l.length then 8 else (firstE (fun i=>flowErr (l.getD i default)) l.length 0).2
theorem fl_getD {l:List Flow} {i:Nat} (h:i<l.length):l.drop i=l.getD i default :: l.drop (i+1):=by
  rw [List.drop_eq_getElem_cons h]
  congr 1
  rw [List.getD_eq_getElem?_getD]; simp [h]
theorem listErr_ok {l:List Flow}:listErr l=0↔l.length≤200∧∀ x ∈ l,flowOk x:=by
  unfold listErr
  constructor
  · intro h
    split at h
    · omega
    · refine ⟨by omega,fun x hx => ?_⟩
      rw [firstE_ok] at h
      obtain ⟨i,hi,rfl⟩:=List.getElem_of_mem hx
      have:=h i (by omega) (by omega)
      rw [flowErr_ok,List.getD_eq_getElem?_getD] at this
      simpa [hi] using this
  · intro ⟨h1,h2⟩
    rw [if_neg (by omega),firstE_ok]
    intro j _ hj
    have hj:j<l.length:=by omega
    rw [flowErr_ok,List.getD_eq_getElem?_getD]
    simpa [hj] using h2 _ (List.getElem_mem hj)
theorem p_ticksErr {l:List Flow} (hl:l.length≤1000000000000):Contract Tryz.prog 120 [.slc 3 (l.map flI)] (.int .i64 (listErr l)):=by
  unfold listErr
  refine contract_run Tryz.func120 k120 rfl ?_
  simp only [body120,b120,res120,b120k0,b120k1,b120k2,b120k3, ↓reduceIte,reduceCtorEq,Nat.reduceEqDiff,Nat.reduceAdd,Nat.reduceMul,Nat.reduceSub,Nat.reduceLeDiff,Nat.reduceBEq,Int.reduceToNat,Int.reduceLE,Int.reduceLT,Int.reduceEq,Int.reduceNe,di]
  split
  · rename_i h
    rw [if_pos (by omega)]
  · rename_i h
    rw [if_neg (by omega)]
    refine loop_keep (α:=Nat) rfl (fun i=>l.length - i) (fun i=>i≤l.length∧(firstE (fun i=>flowErr (l.getD i default)) (l.length - i) i).2=(firstE (fun i=>flowErr (l.getD i default)) l.length 0).2)
      (fun i=>[(9,.imm (.slc 3 (l.map flI))),(10,.imm (.int .i64 l.length)),(11,.imm (.int .i64 i))]) (fun _=>[]) 0 ⟨Nat.zero_le _,rfl⟩ (by simp only [↓reduceIte,reduceCtorEq,Nat.reduceEqDiff,Nat.reduceAdd,Nat.reduceMul,Nat.reduceSub,Nat.reduceLeDiff,Nat.reduceBEq,Int.reduceToNat,Int.reduceLE,Int.reduceLT,Int.reduceEq,Int.reduceNe,di] <;> rfl) ?_
    intro i ⟨hi,he⟩ ih
    simp only [res120,b120k0,b120k1,b120k2,b120k3,lkE, ↓reduceIte,reduceCtorEq,Nat.reduceEqDiff,Nat.reduceAdd,Nat.reduceMul,Nat.reduceSub,Nat.reduceLeDiff,Nat.reduceBEq,Int.reduceToNat,Int.reduceLE,Int.reduceLT,Int.reduceEq,Int.reduceNe,di]
    split
    · rename_i h1
      rw [show l.length - i=(l.length - (i+1))+1 by omega,firstE_succ] at he
      repeat (refine And.intro (by omega) ?_)
      have hc:=p_flowsErr (x:=l.getD i default)
      refine calls_of hc ?_; simp only [lkE,res120,b120k0,b120k1,b120k2,b120k3, ↓reduceIte,reduceCtorEq,Nat.reduceEqDiff,Nat.reduceAdd,Nat.reduceMul,Nat.reduceSub,Nat.reduceLeDiff,Nat.reduceBEq,Int.reduceToNat,Int.reduceLE,Int.reduceLT,Int.reduceEq,Int.reduceNe,di]
      split
      · rename_i h2
        rw [if_pos h2] at he
        rw [wrap64 (by omega) (by omega)]
        exact ih (i+1) _ _ (by omega) ⟨by omega,he⟩ (by simp only [↓reduceIte,reduceCtorEq,Nat.reduceEqDiff,Nat.reduceAdd,Nat.reduceMul,Nat.reduceSub,Nat.reduceLeDiff,Nat.reduceBEq,Int.reduceToNat,Int.reduceLE,Int.reduceLT,Int.reduceEq,Int.reduceNe,di] <;> rfl)
      · rename_i h2
        rw [if_neg h2] at he
        rw [← he]
    · rename_i h1
      rw [show l.length - i=0 by omega] at he
      rw [← he]
      rfl
theorem p_RunOf {p:Pair} {s:Sta} {l:List Flow} (h:Sm p) (hl:l.length≤1000000000000):Contract Tryz.prog 45 [lpI p,stI s,.slc 3 (l.map flI)]
    (if bothErr p s=0 then if listErr l=0 then if (runP p s l).2.2=true then .tup [.slc 2 ((runP p s l).1.map stI),.agg [.int .i64 (runP p s l).2.1.1,.int .i64 (runP p s l).2.1.2],.int .i64 0]
      else .tup [.slc 2 [],.agg [.int .i64 0,.int .i64 0],.int .i64 22]
      else .tup [.slc 2 [],.agg [.int .i64 0,.int .i64 0],.int .i64 (listErr l)] else .tup [.slc 2 [],.agg [.int .i64 0,.int .i64 0],.int .i64 (bothErr p s)]):=by
  refine contract_run Tryz.func45 k45 rfl ?_
  simp only [body45,b45,res45,b45k0,b45k1,b45k2,b45k3,b45k4,lkE, ↓reduceIte,reduceCtorEq,Nat.reduceEqDiff,Nat.reduceAdd,Nat.reduceMul,Nat.reduceSub,Nat.reduceLeDiff,Nat.reduceBEq,Int.reduceToNat,Int.reduceLE,Int.reduceLT,Int.reduceEq,Int.reduceNe,di]
  refine calls_of (p_openState h) ?_; simp only [lkE,res45,b45k0,b45k1,b45k2,b45k3,b45k4, ↓reduceIte,reduceCtorEq,Nat.reduceEqDiff,Nat.reduceAdd,Nat.reduceMul,Nat.reduceSub,Nat.reduceLeDiff,Nat.reduceBEq,Int.reduceToNat,Int.reduceLE,Int.reduceLT,Int.reduceEq,Int.reduceNe,di]
  refine calls_of (p_ticksErr hl) ?_; simp only [lkE,res45,b45k0,b45k1,b45k2,b45k3,b45k4, ↓reduceIte,reduceCtorEq,Nat.reduceEqDiff,Nat.reduceAdd,Nat.reduceMul,Nat.reduceSub,Nat.reduceLeDiff,Nat.reduceBEq,Int.reduceToNat,Int.reduceLE,Int.reduceLT,Int.reduceEq,Int.reduceNe,di]
  refine calls_of p_first2 ?_; simp only [lkE,res45,b45k0,b45k1,b45k2,b45k3,b45k4, ↓reduceIte,reduceCtorEq,Nat.reduceEqDiff,Nat.reduceAdd,Nat.reduceMul,Nat.reduceSub,Nat.reduceLeDiff,Nat.reduceBEq,Int.reduceToNat,Int.reduceLE,Int.reduceLT,Int.reduceEq,Int.reduceNe,di]
  by_cases h0:bothErr p s=0
  · simp only [if_pos h0]
    by_cases h1:listErr l=0
    · simp only [if_pos h1,lkE, ↓reduceIte,reduceCtorEq,Nat.reduceEqDiff,Nat.reduceAdd,Nat.reduceMul,Nat.reduceSub,Nat.reduceLeDiff,Nat.reduceBEq,Int.reduceToNat,Int.reduceLE,Int.reduceLT,Int.reduceEq,Int.reduceNe,di]
      have hv:=bothErr_ok.1 h0
      have hf:=listErr_ok.1 h1
      refine loop_keep (α:=Nat × Sta × List Sta × Int × Int) rfl (fun x=>l.length - x.1)
        (fun x=>x.1≤l.length∧stOk p x.2.1∧x.2.2.1.length=x.1∧0≤x.2.2.2.1∧x.2.2.2.1≤2000000000 * x.1∧0≤x.2.2.2.2∧x.2.2.2.2≤2000000000 * x.1 ∧
          runP p s l=(x.2.2.1 ++ (runP p x.2.1 (l.drop x.1)).1,(x.2.2.2.1+(runP p x.2.1 (l.drop x.1)).2.1.1,x.2.2.2.2+(runP p x.2.1 (l.drop x.1)).2.1.2),(runP p x.2.1 (l.drop x.1)).2.2))
        (fun x=>[(4,.ref 4 0),(7,.ref 7 0),(9,.ref 9 0),(11,.own 11),(12,.ref 12 0),(33,.imm (.slc 3 (l.map flI))),(34,.imm (.int .i64 l.length)),(35,.imm (.int .i64 x.1))])
        (fun x=>[(4,.box [.imm (.int .i64 x.2.1.1),.imm (.int .i64 x.2.1.2)]),(7,.box [.imm (.int .i64 0),.imm (.int .i64 0)]),(9,.box [.imm (.slc 2 (p.u.map knI)),.imm (.slc 2 (p.l.map knI)),.imm (.int .i64 p.rate)]),
          (11,.tok 2 (x.2.2.1.map stI)),(12,.box [.imm (.int .i64 x.2.2.2.1),.imm (.int .i64 x.2.2.2.2)])])
        (0,s,[],0,0) ⟨Nat.zero_le _,hv.2,rfl,by dsimp only; omega,by dsimp only; omega,by dsimp only; omega,by dsimp only; omega,by simp⟩ (by simp only [↓reduceIte,reduceCtorEq,Nat.reduceEqDiff,Nat.reduceAdd,Nat.reduceMul,Nat.reduceSub,Nat.reduceLeDiff,Nat.reduceBEq,Int.reduceToNat,Int.reduceLE,Int.reduceLT,Int.reduceEq,Int.reduceNe,di] <;> rfl) ?_
      rintro ⟨i,c,o,E,F⟩ ⟨hi,hc,ho,hE0,hE1,hF0,hF1,hr⟩ ih
      dsimp only at hi hc ho hE0 hE1 hF0 hF1 hr
      simp only [res45,b45k0,b45k1,b45k2,b45k3,b45k4,lkE, ↓reduceIte,reduceCtorEq,Nat.reduceEqDiff,Nat.reduceAdd,Nat.reduceMul,Nat.reduceSub,Nat.reduceLeDiff,Nat.reduceBEq,Int.reduceToNat,Int.reduceLE,Int.reduceLT,Int.reduceEq,Int.reduceNe,di]
      split
      · rename_i h2
        have hx:flowOk (l.getD i default):=hf.2 _ (by
          rw [List.getD_eq_getElem?_getD]; simp [show i<l.length by omega])
        have hd:=fl_getD (l:=l) (i:=i) (by omega)
        repeat (refine And.intro (by omega) ?_)
        have hst:=p_step hv.1 hc hx
        rw [hd] at hr
        cases hs:Lk.step p c (l.getD i default) with
        | none =>
          rw [hs] at hst
          rw [runP_none hs] at hr
          refine calls_of hst ?_
          simp only [stepI,res45,b45k0,b45k1,b45k2,b45k3,b45k4,lkE, ↓reduceIte,reduceCtorEq,Nat.reduceEqDiff,Nat.reduceAdd,Nat.reduceMul,Nat.reduceSub,Nat.reduceLeDiff,Nat.reduceBEq,Int.reduceToNat,Int.reduceLE,Int.reduceLT,Int.reduceEq,Int.reduceNe,di]
          rw [hr]
          rfl
        | some r =>
          obtain ⟨t,e,f⟩:=r
          have hs2:=step_some hv.1 hc hx hs
          rw [hs] at hst
          rw [runP_some hs] at hr
          refine calls_of hst ?_
          simp only [stepI,res45,b45k0,b45k1,b45k2,b45k3,b45k4,lkE, ↓reduceIte,reduceCtorEq,Nat.reduceEqDiff,Nat.reduceAdd,Nat.reduceMul,Nat.reduceSub,Nat.reduceLeDiff,Nat.reduceBEq,Int.reduceToNat,Int.reduceLE,Int.reduceLT,Int.reduceEq,Int.reduceNe,di]
          rw [wrap64 (n:=E+e) (by omega) (by omega),wrap64 (n:=F+f) (by omega) (by omega),wrap64 (n:=(i:Int)+1) (by omega) (by omega)]
          repeat (refine And.intro (by omega) ?_)
          refine ih (i+1,t,o ++ [t],E+e,F+f) _ _ (by dsimp only; omega) ⟨by dsimp only; omega,hs2.1,by simp [ho],by dsimp only; omega,by dsimp only; omega,by dsimp only; omega,by dsimp only; omega,?_⟩ (by simp only [st_snoc,lkE, ↓reduceIte,reduceCtorEq,Nat.reduceEqDiff,Nat.reduceAdd,Nat.reduceMul,Nat.reduceSub,Nat.reduceLeDiff,Nat.reduceBEq,Int.reduceToNat,Int.reduceLE,Int.reduceLT,Int.reduceEq,Int.reduceNe,di] <;> rfl)
          rw [hr]
          simp only [List.append_assoc,List.cons_append,List.nil_append,Int.add_assoc]
      · rename_i h2
        rw [List.drop_eq_nil_of_le (by omega)] at hr
        rw [hr]
        simp only [runP,Int.add_zero,List.append_nil,if_true]
    · simp only [if_neg h1,lkE, ↓reduceIte,reduceCtorEq,Nat.reduceEqDiff,Nat.reduceAdd,Nat.reduceMul,Nat.reduceSub,Nat.reduceLeDiff,Nat.reduceBEq,Int.reduceToNat,Int.reduceLE,Int.reduceLT,Int.reduceEq,Int.reduceNe,di]
  · simp only [if_neg h0,lkE, ↓reduceIte,reduceCtorEq,Nat.reduceEqDiff,Nat.reduceAdd,Nat.reduceMul,Nat.reduceSub,Nat.reduceLeDiff,Nat.reduceBEq,Int.reduceToNat,Int.reduceLE,Int.reduceLT,Int.reduceEq,Int.reduceNe,di]
    first | rfl | done
end Go.DI


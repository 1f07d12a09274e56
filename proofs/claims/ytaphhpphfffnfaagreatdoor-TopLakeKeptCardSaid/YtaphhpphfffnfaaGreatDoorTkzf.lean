/- Contracts: readings that contradict each other. No condition. -/
import Derived.Test.YtaphhpphfffnfaaGreatDoorTkza
set_option linter.unusedSimpArgs false
set_option maxRecDepth 100000
namespace Go.DI
open Go.Proofs Go.RowKit Lk
structure VRead (l:List Kn) (net:List Int) (rs:List Rdg):Prop where
  v:Valid l
  n:net.length≤200
  b:∀ x ∈ net, -10000000≤x∧x≤10000000
  p : 0<rs.length
  q:rs.length≤10
  ok:∀ x ∈ rs,rdgErr l net.length x=0
theorem allErr_ok {l:List Kn} {net:List Int} {rs:List Rdg} (h:allErr l net rs=0):VRead l net rs:=by
  unfold allErr at h
  split at h
  · rename_i h1
    split at h
    · rename_i h2
      have h3:=rdErr_ok h
      have h4:=netErrP_ok.1 h2
      refine ⟨chkT_ok.1 h1,h4.1,h4.2,h3.1,h3.2.1,fun x hx => ?_⟩
      obtain ⟨i,hi,rfl⟩:=List.getElem_of_mem hx
      have:=h3.2.2 i hi
      rw [List.getD_eq_getElem?_getD] at this
      simpa [hi] using this
    · contradiction
  · contradiction
theorem p_common1 {r:Rn}:Contract Tryz.prog 132 [.slc 2 [rnI r]] (.tup [rnI r,.bool (decide (r.1≤r.2))]):=p_common (rs:=[r]) (by simp) (by simp)
theorem p_common2 {r q:Rn}:Contract Tryz.prog 132 [.slc 2 [rnI r,rnI q]] (.tup [rnI (meet r q),.bool (decide ((meet r q).1≤(meet r q).2))]):=p_common (rs:=[r,q]) (by simp) (by simp)
def conI (rs:List Rn):List Int:=(contra rs).map (fun i:Nat=>(i:Int))
theorem findN_succ {p:Nat→Bool} {m i:Nat}:findN p (m+1) i=if p i=true then some i else findN p m (i+1):=rfl
theorem find2_succ {q:Nat→Nat→Bool} {n m i:Nat}:find2 q n (m+1) i=match findN (q i) (n - (i+1)) (i+1) with
    | some k=>some (i,k)
    | none=>find2 q n m (i+1):=rfl
theorem contra_one {rs:List Rn} {i:Nat} (h:findN (empty1 rs) rs.length 0=some i):contra rs=[i]:=by
  unfold contra
  rw [h]
theorem contra_two {rs:List Rn} {i k:Nat} (h0:findN (empty1 rs) rs.length 0=none) (h:find2 (empty2 rs) rs.length rs.length 0=some (i,k)):contra rs=[i,k]:=by
  unfold contra
  rw [h0,h]
theorem contra_none {rs:List Rn} (h0:findN (empty1 rs) rs.length 0=none) (h:find2 (empty2 rs) rs.length rs.length 0=none):contra rs=[]:=by
  unfold contra
  rw [h0,h]
theorem con_len {rs:List Rn}:(conI rs).length≤2:=by
  unfold conI contra
  rw [List.length_map]
  split
  · simp
  · split
    · simp
    · simp
theorem r_CopyReadings {l:List Rdg} (hl:l.length≤1000000000):Contract Tryz.prog 53 [.slc 3 (l.map rdI)] (.slc 3 (l.map rdI)):=by
  refine contract_run Tryz.func53 k53 rfl ?_
  simp only [body53,b53,res53,lkE, ↓reduceIte,reduceCtorEq,Nat.reduceEqDiff,Nat.reduceAdd,Nat.reduceMul,Nat.reduceSub,Nat.reduceLeDiff,Nat.reduceBEq,Int.reduceToNat,Int.reduceLE,Int.reduceLT,Int.reduceEq,Int.reduceNe,di]
  omega
theorem p_Contradicting {l:List Kn} {net:List Int} {rs:List Rdg} (hl:l.length≤1000000000000) (hn:net.length≤1000000000000) :
    Contract Tryz.prog 54 [tabI l,.slc 1 (net.map (.int .i64)),.slc 3 (rs.map rdI)]
    (if allErr l net rs=0 then .tup [.slc 1 ((conI (rs.map (perm l net))).map (.int .i64)),.int .i64 (if contra (rs.map (perm l net))=[] then 12 else 0)] else .tup [.slc 1 [],.int .i64 (allErr l net rs)]):=by
  have hP:=p_permitted (rs:=rs) hl hn
  refine contract_run Tryz.func54 k54 rfl ?_
  simp only [body54,b54,res54,b54k0,b54k1,b54k2,b54k3,b54k4,b54k5,b54k6,b54k7,b54k8,lkE, ↓reduceIte,reduceCtorEq,Nat.reduceEqDiff,Nat.reduceAdd,Nat.reduceMul,Nat.reduceSub,Nat.reduceLeDiff,Nat.reduceBEq,Int.reduceToNat,Int.reduceLE,Int.reduceLT,Int.reduceEq,Int.reduceNe,di]
  by_cases h00:allErr l net rs=0
  · rw [if_pos h00] at hP ⊢
    have hv:=allErr_ok h00
    have hp:=hv.p
    have hq:=hv.q
    have hlen:(rs.map (perm l net)).length=rs.length:=by simp
    generalize rs.map (perm l net)=R at *
    generalize rs.length=n at *
    refine calls_of hP ?_; simp only [lkE,res54,b54k0,b54k1,b54k2,b54k3,b54k4,b54k5,b54k6,b54k7,b54k8, ↓reduceIte,reduceCtorEq,Nat.reduceEqDiff,Nat.reduceAdd,Nat.reduceMul,Nat.reduceSub,Nat.reduceLeDiff,Nat.reduceBEq,Int.reduceToNat,Int.reduceLE,Int.reduceLT,Int.reduceEq,Int.reduceNe,di]
    refine loop_keep (α:=Nat) rfl (fun i=>n - i) (fun i=>i≤n∧findN (empty1 R) (n - i) i=findN (empty1 R) n 0)
      (fun i=>[(8,.imm (.slc 2 (R.map rnI))),(30,.imm (.slc 2 (R.map rnI))),(31,.imm (.int .i64 R.length)),(32,.imm (.int .i64 i))])
      (fun _=>[]) 0 ⟨Nat.zero_le _,rfl⟩ (by simp only [↓reduceIte,reduceCtorEq,Nat.reduceEqDiff,Nat.reduceAdd,Nat.reduceMul,Nat.reduceSub,Nat.reduceLeDiff,Nat.reduceBEq,Int.reduceToNat,Int.reduceLE,Int.reduceLT,Int.reduceEq,Int.reduceNe,di] <;> rfl) ?_
    intro i ⟨hi,he⟩ ih
    simp only [res54,b54k0,b54k1,b54k2,b54k3,b54k4,b54k5,b54k6,b54k7,b54k8,lkE, ↓reduceIte,reduceCtorEq,Nat.reduceEqDiff,Nat.reduceAdd,Nat.reduceMul,Nat.reduceSub,Nat.reduceLeDiff,Nat.reduceBEq,Int.reduceToNat,Int.reduceLE,Int.reduceLT,Int.reduceEq,Int.reduceNe,di]
    split
    · rename_i h1
      have hE:empty1 R i=decide ((rn R i).2<(rn R i).1):=rfl
      rw [show n - i=(n - (i+1))+1 by omega,findN_succ] at he
      have hA:=p_common1 (r:=rn R i)
      repeat (refine And.intro (by omega) ?_)
      by_cases h2:(rn R i).1≤(rn R i).2
      · rw [decide_eq_true h2] at hA
        rw [if_neg (by rw [hE,decide_eq_false (by omega)]; decide)] at he
        refine calls_of hA ?_
        simp only [rnI,res54,b54k0,b54k1,b54k2,b54k3,b54k4,b54k5,b54k6,b54k7,b54k8,lkE, ↓reduceIte,reduceCtorEq,Nat.reduceEqDiff,Nat.reduceAdd,Nat.reduceMul,Nat.reduceSub,Nat.reduceLeDiff,Nat.reduceBEq,Int.reduceToNat,Int.reduceLE,Int.reduceLT,Int.reduceEq,Int.reduceNe,di]
        rw [wrap64 (by omega) (by omega)]
        exact ih (i+1) _ _ (by omega) ⟨by omega,he⟩ (by simp only [↓reduceIte,reduceCtorEq,Nat.reduceEqDiff,Nat.reduceAdd,Nat.reduceMul,Nat.reduceSub,Nat.reduceLeDiff,Nat.reduceBEq,Int.reduceToNat,Int.reduceLE,Int.reduceLT,Int.reduceEq,Int.reduceNe,di] <;> rfl)
      · rw [decide_eq_false h2] at hA
        rw [if_pos (by rw [hE,decide_eq_true (by omega)])] at he
        have hc:=contra_one (rs:=R) (i:=i) (by rw [hlen]; exact he.symm)
        refine calls_of hA ?_
        simp only [rnI,res54,b54k0,b54k1,b54k2,b54k3,b54k4,b54k5,b54k6,b54k7,b54k8,lkE, ↓reduceIte,reduceCtorEq,Nat.reduceEqDiff,Nat.reduceAdd,Nat.reduceMul,Nat.reduceSub,Nat.reduceLeDiff,Nat.reduceBEq,Int.reduceToNat,Int.reduceLE,Int.reduceLT,Int.reduceEq,Int.reduceNe,di]
        unfold conI
        rw [hc]
        rfl
    · rename_i h1
      have h0:findN (empty1 R) n 0=none:=by
        rw [← he,show n - i=0 by omega]; rfl
      refine loop_keep (α:=Nat) rfl (fun i=>n - i) (fun i=>i≤n∧find2 (empty2 R) n (n - i) i=find2 (empty2 R) n n 0)
        (fun i=>[(8,.imm (.slc 2 (R.map rnI))),(48,.imm (.slc 2 (R.map rnI))),(49,.imm (.int .i64 R.length)),(50,.imm (.int .i64 i))])
        (fun _=>[]) 0 ⟨Nat.zero_le _,rfl⟩ (by simp only [↓reduceIte,reduceCtorEq,Nat.reduceEqDiff,Nat.reduceAdd,Nat.reduceMul,Nat.reduceSub,Nat.reduceLeDiff,Nat.reduceBEq,Int.reduceToNat,Int.reduceLE,Int.reduceLT,Int.reduceEq,Int.reduceNe,di] <;> rfl) ?_
      clear ih hi he h1 i
      intro i ⟨hi,he⟩ ih
      simp only [res54,b54k0,b54k1,b54k2,b54k3,b54k4,b54k5,b54k6,b54k7,b54k8,lkE, ↓reduceIte,reduceCtorEq,Nat.reduceEqDiff,Nat.reduceAdd,Nat.reduceMul,Nat.reduceSub,Nat.reduceLeDiff,Nat.reduceBEq,Int.reduceToNat,Int.reduceLE,Int.reduceLT,Int.reduceEq,Int.reduceNe,di]
      split
      · rename_i h1
        rw [show n - i=(n - (i+1))+1 by omega,find2_succ] at he
        rw [wrap64 (by omega) (by omega)]
        repeat (refine And.intro (by omega) ?_)
        have hd:List.drop ((i:Int)+1).toNat (List.take R.length R)=R.drop (i+1):=by
          rw [List.take_length,show ((i:Int)+1).toNat=i+1 by omega]
        have hdl:(R.drop (i+1)).length=n - (i+1):=by rw [List.length_drop,hlen]
        simp only [hd]
        refine loop_keep (α:=Nat) rfl (fun j=>n - (i+1+j)) (fun j=>i+1+j≤n∧findN (empty2 R i) (n - (i+1+j)) (i+1+j)=findN (empty2 R i) (n - (i+1)) (i+1))
          (fun j=>[(8,.imm (.slc 2 (R.map rnI))),(14,.imm (.int .i64 i)),(15,.ref 15 0),(48,.imm (.slc 2 (R.map rnI))),(49,.imm (.int .i64 R.length)),(50,.imm (.int .i64 i)),
            (58,.imm (.slc 2 ((R.drop (i+1)).map rnI))),(59,.imm (.int .i64 (R.drop (i+1)).length)),(60,.imm (.int .i64 j))])
          (fun _=>[(15,.box [.imm (.int .i64 (rn R i).1),.imm (.int .i64 (rn R i).2)])]) 0 ⟨by omega,rfl⟩ (by simp only [↓reduceIte,reduceCtorEq,Nat.reduceEqDiff,Nat.reduceAdd,Nat.reduceMul,Nat.reduceSub,Nat.reduceLeDiff,Nat.reduceBEq,Int.reduceToNat,Int.reduceLE,Int.reduceLT,Int.reduceEq,Int.reduceNe,di] <;> rfl) ?_
        intro j ⟨hj,hf⟩ ih2
        simp only [res54,b54k0,b54k1,b54k2,b54k3,b54k4,b54k5,b54k6,b54k7,b54k8,hdl,lkE, ↓reduceIte,reduceCtorEq,Nat.reduceEqDiff,Nat.reduceAdd,Nat.reduceMul,Nat.reduceSub,Nat.reduceLeDiff,Nat.reduceBEq,Int.reduceToNat,Int.reduceLE,Int.reduceLT,Int.reduceEq,Int.reduceNe,di]
        split
        · rename_i h2
          have hk:i+1+j<n:=by omega
          have hg:kn (R.drop (i+1)) j=rn R (i+1+j):=by
            unfold kn rn
            rw [List.getD_eq_getElem?_getD,List.getD_eq_getElem?_getD,List.getElem?_drop]
          have hA:=p_common2 (r:=rn R i) (q:=rn R (i+1+j))
          rw [show n - (i+1+j)=(n - (i+1+(j+1)))+1 by omega,findN_succ] at hf
          have hE:empty2 R i (i+1+j)=decide ((meet (rn R i) (rn R (i+1+j))).2<(meet (rn R i) (rn R (i+1+j))).1):=rfl
          simp only [hg]
          repeat (refine And.intro (by omega) ?_)
          by_cases h3:(meet (rn R i) (rn R (i+1+j))).1≤(meet (rn R i) (rn R (i+1+j))).2
          · rw [decide_eq_true h3] at hA
            rw [if_neg (by rw [hE,decide_eq_false (by omega)]; decide)] at hf
            refine calls_of hA ?_
            simp only [rnI,res54,b54k0,b54k1,b54k2,b54k3,b54k4,b54k5,b54k6,b54k7,b54k8,lkE, ↓reduceIte,reduceCtorEq,Nat.reduceEqDiff,Nat.reduceAdd,Nat.reduceMul,Nat.reduceSub,Nat.reduceLeDiff,Nat.reduceBEq,Int.reduceToNat,Int.reduceLE,Int.reduceLT,Int.reduceEq,Int.reduceNe,di]
            rw [wrap64 (by omega) (by omega)]
            exact ih2 (j+1) _ _ (by omega) ⟨by omega,hf⟩ (by simp only [hdl, ↓reduceIte,reduceCtorEq,Nat.reduceEqDiff,Nat.reduceAdd,Nat.reduceMul,Nat.reduceSub,Nat.reduceLeDiff,Nat.reduceBEq,Int.reduceToNat,Int.reduceLE,Int.reduceLT,Int.reduceEq,Int.reduceNe,di] <;> rfl)
          · rw [decide_eq_false h3] at hA
            rw [if_pos (by rw [hE,decide_eq_true (by omega)])] at hf
            rw [← hf] at he
            have hc:=contra_two (rs:=R) (i:=i) (k:=i+1+j) (by rw [hlen]; exact h0) (by rw [hlen]; exact he.symm)
            refine calls_of hA ?_
            simp only [rnI,res54,b54k0,b54k1,b54k2,b54k3,b54k4,b54k5,b54k6,b54k7,b54k8,lkE, ↓reduceIte,reduceCtorEq,Nat.reduceEqDiff,Nat.reduceAdd,Nat.reduceMul,Nat.reduceSub,Nat.reduceLeDiff,Nat.reduceBEq,Int.reduceToNat,Int.reduceLE,Int.reduceLT,Int.reduceEq,Int.reduceNe,di]
            unfold conI
            rw [hc]
            rw [wrap64 (n:=(i:Int)+1) (by omega) (by omega),wrap64 (n:=(i:Int)+1+j) (by omega) (by omega)]
            rfl
        · rename_i h2
          rw [show n - (i+1+j)=0 by omega] at hf
          rw [← hf] at he
          rw [wrap64 (by omega) (by omega)]
          exact ih (i+1) _ _ (by omega) ⟨by omega,he⟩ (by simp only [↓reduceIte,reduceCtorEq,Nat.reduceEqDiff,Nat.reduceAdd,Nat.reduceMul,Nat.reduceSub,Nat.reduceLeDiff,Nat.reduceBEq,Int.reduceToNat,Int.reduceLE,Int.reduceLT,Int.reduceEq,Int.reduceNe,di] <;> rfl)
      · rename_i h1
        have h3:find2 (empty2 R) n n 0=none:=by
          rw [← he,show n - i=0 by omega]; rfl
        have hc:=contra_none (rs:=R) (by rw [hlen]; exact h0) (by rw [hlen]; exact h3)
        unfold conI
        rw [hc]
        rfl
  · rw [if_neg h00] at hP ⊢
    refine calls_of hP ?_; simp only [lkE,res54,b54k0,b54k1,b54k2,b54k3,b54k4,b54k5,b54k6,b54k7,b54k8, ↓reduceIte,reduceCtorEq,Nat.reduceEqDiff,Nat.reduceAdd,Nat.reduceMul,Nat.reduceSub,Nat.reduceLeDiff,Nat.reduceBEq,Int.reduceToNat,Int.reduceLE,Int.reduceLT,Int.reduceEq,Int.reduceNe,di]
    simp only [if_neg h00,lkE, ↓reduceIte,reduceCtorEq,Nat.reduceEqDiff,Nat.reduceAdd,Nat.reduceMul,Nat.reduceSub,Nat.reduceLeDiff,Nat.reduceBEq,Int.reduceToNat,Int.reduceLE,Int.reduceLT,Int.reduceEq,Int.reduceNe,di]
end Go.DI


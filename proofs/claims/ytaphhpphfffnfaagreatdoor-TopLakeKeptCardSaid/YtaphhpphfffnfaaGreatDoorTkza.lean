/- Contracts: the program's agreed range. No condition. -/
import Derived.Test.YtaphhpphfffnfaaGreatDoorTkz
set_option linter.unusedSimpArgs false
namespace Go.DI
open Go.Proofs Go.RowKit Lk
theorem rn_snoc {l:List Rn} {a b:Int}:l.map rnI ++ [IV.agg [.int .i64 a,.int .i64 b]]=(l ++ [(a,b)]).map rnI:=by simp [rnI]
def allErr (l:List Kn) (net:List Int) (rs:List Rdg):Int:=if (chkT l).2=0 then if netErrP net=0 then rdErr l net.length rs else netErrP net else (chkT l).2
theorem rdErr_ok {l:List Kn} {n:Int} {rs:List Rdg} (h:rdErr l n rs=0) : 0<rs.length∧rs.length≤10∧∀ i,i<rs.length→rdgErr l n (rs.getD i default)=0:=by
  unfold rdErr at h
  split at h
  · omega
  · split at h
    · omega
    · rw [firstE_ok] at h
      exact ⟨by omega,by omega,fun i hi=>h i (by omega) (by omega)⟩
theorem sumTo_bd {net:List Int} (h:∀ x ∈ net, -10000000≤x∧x≤10000000):∀ n:Nat, -10000000 * (n:Int)≤sumTo net n∧sumTo net n≤10000000 * n
  | 0=>by simp [sumTo]
  | n+1=>by
    have ih:=sumTo_bd h n
    have e : -10000000≤net.getD n 0∧net.getD n 0≤10000000:=by
      rw [List.getD_eq_getElem?_getD]
      cases hn:net[n]? with
      | none=>simp
      | some x=>simpa using h x (List.mem_of_getElem? hn)
    unfold sumTo
    omega
theorem getD_take {net:List Int} {j n:Nat} (h:j<n):(net.take n).getD j 0=net.getD j 0:=by
  rw [List.getD_eq_getElem?_getD,List.getD_eq_getElem?_getD,List.getElem?_take_of_lt h]
theorem take_snoc {α:Type} {l:List α} {i:Nat} {d : α} (h:i<l.length):l.take (i+1)=l.take i ++ [l.getD i d]:=by
  rw [List.take_succ_eq_append_getElem h,List.getD_eq_getElem?_getD]
  simp [h]
theorem p_permitted {l:List Kn} {net:List Int} {rs:List Rdg} (hl:l.length≤1000000000000) (hn:net.length≤1000000000000) :
    Contract Tryz.prog 131 [tabI l,.slc 1 (net.map (.int .i64)),.slc 3 (rs.map rdI)]
    (if allErr l net rs=0 then .tup [.slc 2 ((rs.map (perm l net)).map rnI),.int .i64 0] else .tup [.slc 2 [],.int .i64 (allErr l net rs)]):=by
  refine contract_run Tryz.func131 k131 rfl ?_
  simp only [body131,b131,res131,b131k0,b131k1,b131k2,b131k3,b131k4,b131k5,b131k6,lkE, ↓reduceIte,reduceCtorEq,Nat.reduceEqDiff,Nat.reduceAdd,Nat.reduceMul,Nat.reduceSub,Nat.reduceLeDiff,Nat.reduceBEq,Int.reduceToNat,Int.reduceLE,Int.reduceLT,Int.reduceEq,Int.reduceNe,di]
  refine calls_of (p_tableErr hl) ?_; simp only [lkE,res131,b131k0,b131k1,b131k2,b131k3,b131k4,b131k5,b131k6, ↓reduceIte,reduceCtorEq,Nat.reduceEqDiff,Nat.reduceAdd,Nat.reduceMul,Nat.reduceSub,Nat.reduceLeDiff,Nat.reduceBEq,Int.reduceToNat,Int.reduceLE,Int.reduceLT,Int.reduceEq,Int.reduceNe,di]
  refine calls_of (p_netErr hn) ?_; simp only [lkE,res131,b131k0,b131k1,b131k2,b131k3,b131k4,b131k5,b131k6, ↓reduceIte,reduceCtorEq,Nat.reduceEqDiff,Nat.reduceAdd,Nat.reduceMul,Nat.reduceSub,Nat.reduceLeDiff,Nat.reduceBEq,Int.reduceToNat,Int.reduceLE,Int.reduceLT,Int.reduceEq,Int.reduceNe,di]
  refine calls_of p_first2 ?_; simp only [lkE,res131,b131k0,b131k1,b131k2,b131k3,b131k4,b131k5,b131k6, ↓reduceIte,reduceCtorEq,Nat.reduceEqDiff,Nat.reduceAdd,Nat.reduceMul,Nat.reduceSub,Nat.reduceLeDiff,Nat.reduceBEq,Int.reduceToNat,Int.reduceLE,Int.reduceLT,Int.reduceEq,Int.reduceNe,di]
  unfold allErr
  by_cases h0:(chkT l).2=0
  · simp only [if_pos h0]
    have hv:=chkT_ok.1 h0
    by_cases h1:netErrP net=0
    · simp only [if_pos h1,lkE, ↓reduceIte,reduceCtorEq,Nat.reduceEqDiff,Nat.reduceAdd,Nat.reduceMul,Nat.reduceSub,Nat.reduceLeDiff,Nat.reduceBEq,Int.reduceToNat,Int.reduceLE,Int.reduceLT,Int.reduceEq,Int.reduceNe,di]
      have hne:=netErrP_ok.1 h1
      refine calls_of (p_readingsErr hv) ?_; simp only [lkE,res131,b131k0,b131k1,b131k2,b131k3,b131k4,b131k5,b131k6, ↓reduceIte,reduceCtorEq,Nat.reduceEqDiff,Nat.reduceAdd,Nat.reduceMul,Nat.reduceSub,Nat.reduceLeDiff,Nat.reduceBEq,Int.reduceToNat,Int.reduceLE,Int.reduceLT,Int.reduceEq,Int.reduceNe,di]
      by_cases h2:rdErr l net.length rs=0
      · simp only [if_pos h2,lkE, ↓reduceIte,reduceCtorEq,Nat.reduceEqDiff,Nat.reduceAdd,Nat.reduceMul,Nat.reduceSub,Nat.reduceLeDiff,Nat.reduceBEq,Int.reduceToNat,Int.reduceLE,Int.reduceLT,Int.reduceEq,Int.reduceNe,di]
        have hr:=rdErr_ok h2
        refine loop_keep (α:=Nat) rfl (fun i=>rs.length - i) (fun i=>i≤rs.length)
          (fun i=>[(1,.imm (.slc 1 (net.map (.int .i64)))),(9,.ref 9 0),(11,.own 11),(35,.imm (.slc 3 (rs.map rdI))),(36,.imm (.int .i64 rs.length)),(37,.imm (.int .i64 i))])
          (fun i=>[(9,.box [.imm (.slc 2 (l.map knI))]),(11,.tok 2 (((rs.take i).map (perm l net)).map rnI))]) 0 (Nat.zero_le _) (by simp only [↓reduceIte,reduceCtorEq,Nat.reduceEqDiff,Nat.reduceAdd,Nat.reduceMul,Nat.reduceSub,Nat.reduceLeDiff,Nat.reduceBEq,Int.reduceToNat,Int.reduceLE,Int.reduceLT,Int.reduceEq,Int.reduceNe,di] <;> rfl) ?_
        intro i hi ih
        simp only [res131,b131k0,b131k1,b131k2,b131k3,b131k4,b131k5,b131k6,lkE, ↓reduceIte,reduceCtorEq,Nat.reduceEqDiff,Nat.reduceAdd,Nat.reduceMul,Nat.reduceSub,Nat.reduceLeDiff,Nat.reduceBEq,Int.reduceToNat,Int.reduceLE,Int.reduceLT,Int.reduceEq,Int.reduceNe,di]
        split
        · rename_i h3
          obtain ⟨⟨t1,t2⟩,l1,l2,l3⟩:=rdgErr_ok (hr.2.2 i (by omega))
          have b1:=volume_isV hv l1
          have b2:=volume_isV hv l2
          have b3:=isV_bd hv b1.2.1
          have b4:=isV_bd hv b2.1
          have htk:=take_snoc (d:=default) (show i<rs.length by omega)
          repeat (refine And.intro (by omega) ?_)
          generalize hrr:rs.getD i default=r at *
          repeat (refine And.intro (by omega) ?_)
          refine loop_keep (α:=Nat) rfl (fun j=>r.tick.toNat - j) (fun j=>j≤r.tick.toNat)
            (fun j=>[(1,.imm (.slc 1 (net.map (.int .i64)))),(9,.ref 9 0),(11,.own 11),(13,.ref 13 0),(14,.imm (.int .i64 (sumTo net j))),(35,.imm (.slc 3 (rs.map rdI))),(36,.imm (.int .i64 rs.length)),(37,.imm (.int .i64 i)),
              (44,.imm (.slc 1 ((net.take r.tick.toNat).map (.int .i64)))),(45,.imm (.int .i64 (net.take r.tick.toNat).length)),(46,.imm (.int .i64 j))])
            (fun j=>[(9,.box [.imm (.slc 2 (l.map knI))]),(11,.tok 2 (((rs.take i).map (perm l net)).map rnI)),(13,.box [.imm (.int .i64 r.tick),.imm (.int .i64 r.lo),.imm (.int .i64 r.hi)])]) 0 (Nat.zero_le _) (by simp only [↓reduceIte,reduceCtorEq,Nat.reduceEqDiff,Nat.reduceAdd,Nat.reduceMul,Nat.reduceSub,Nat.reduceLeDiff,Nat.reduceBEq,Int.reduceToNat,Int.reduceLE,Int.reduceLT,Int.reduceEq,Int.reduceNe,di] <;> rfl) ?_
          intro j hj ih2
          have sb:=sumTo_bd hne.2 j
          have sb2:=sumTo_bd hne.2 (j+1)
          have hlen:(net.take r.tick.toNat).length=r.tick.toNat:=by rw [List.length_take]; omega
          simp only [res131,b131k0,b131k1,b131k2,b131k3,b131k4,b131k5,b131k6,hlen,lkE, ↓reduceIte,reduceCtorEq,Nat.reduceEqDiff,Nat.reduceAdd,Nat.reduceMul,Nat.reduceSub,Nat.reduceLeDiff,Nat.reduceBEq,Int.reduceToNat,Int.reduceLE,Int.reduceLT,Int.reduceEq,Int.reduceNe,di]
          split
          · rename_i h4
            repeat (refine And.intro (by omega) ?_)
            rw [getD_take (by omega),show sumTo net j+net.getD j 0=sumTo net (j+1) from rfl,wrap64 (n:=sumTo net (j+1)) (by omega) (by omega),wrap64 (n:=(j:Int)+1) (by omega) (by omega)]
            exact ih2 (j+1) _ _ (by omega) (by omega) (by simp only [hlen, ↓reduceIte,reduceCtorEq,Nat.reduceEqDiff,Nat.reduceAdd,Nat.reduceMul,Nat.reduceSub,Nat.reduceLeDiff,Nat.reduceBEq,Int.reduceToNat,Int.reduceLE,Int.reduceLT,Int.reduceEq,Int.reduceNe,di] <;> rfl)
          · rename_i h4
            have:j=r.tick.toNat:=by omega
            subst this
            refine calls_of (p_volumeAt hv l1) ?_; simp only [lkE,res131,b131k0,b131k1,b131k2,b131k3,b131k4,b131k5,b131k6, ↓reduceIte,reduceCtorEq,Nat.reduceEqDiff,Nat.reduceAdd,Nat.reduceMul,Nat.reduceSub,Nat.reduceLeDiff,Nat.reduceBEq,Int.reduceToNat,Int.reduceLE,Int.reduceLT,Int.reduceEq,Int.reduceNe,di]
            refine calls_of (p_volumeAt hv l2) ?_; simp only [lkE,res131,b131k0,b131k1,b131k2,b131k3,b131k4,b131k5,b131k6, ↓reduceIte,reduceCtorEq,Nat.reduceEqDiff,Nat.reduceAdd,Nat.reduceMul,Nat.reduceSub,Nat.reduceLeDiff,Nat.reduceBEq,Int.reduceToNat,Int.reduceLE,Int.reduceLT,Int.reduceEq,Int.reduceNe,di]
            rw [wrap64 (n:=volHi l r.lo - sumTo net r.tick.toNat) (by omega) (by omega),wrap64 (n:=volLo l r.hi - sumTo net r.tick.toNat) (by omega) (by omega),wrap64 (n:=(i:Int)+1) (by omega) (by omega)]
            refine ⟨by simp; omega,by simp; omega,?_⟩
            refine ih (i+1) _ _ (by omega) (by omega) ?_
            rw [htk,List.map_append]
            simp only [rn_snoc,lkE, ↓reduceIte,reduceCtorEq,Nat.reduceEqDiff,Nat.reduceAdd,Nat.reduceMul,Nat.reduceSub,Nat.reduceLeDiff,Nat.reduceBEq,Int.reduceToNat,Int.reduceLE,Int.reduceLT,Int.reduceEq,Int.reduceNe,di]
            rfl
        · rename_i h3
          rw [List.take_of_length_le (by omega)]
      · simp only [if_neg h2,lkE, ↓reduceIte,reduceCtorEq,Nat.reduceEqDiff,Nat.reduceAdd,Nat.reduceMul,Nat.reduceSub,Nat.reduceLeDiff,Nat.reduceBEq,Int.reduceToNat,Int.reduceLE,Int.reduceLT,Int.reduceEq,Int.reduceNe,di]
    · simp only [if_neg h1,lkE, ↓reduceIte,reduceCtorEq,Nat.reduceEqDiff,Nat.reduceAdd,Nat.reduceMul,Nat.reduceSub,Nat.reduceLeDiff,Nat.reduceBEq,Int.reduceToNat,Int.reduceLE,Int.reduceLT,Int.reduceEq,Int.reduceNe,di]
  · simp only [if_neg h0,lkE, ↓reduceIte,reduceCtorEq,Nat.reduceEqDiff,Nat.reduceAdd,Nat.reduceMul,Nat.reduceSub,Nat.reduceLeDiff,Nat.reduceBEq,Int.reduceToNat,Int.reduceLE,Int.reduceLT,Int.reduceEq,Int.reduceNe,di]
theorem p_common {rs:List Rn} (h : 0<rs.length) (hl:rs.length≤1000000000):Contract Tryz.prog 132 [.slc 2 (rs.map rnI)] (.tup [rnI (meets rs (rs.length - 1)),.bool (decide ((meets rs (rs.length - 1)).1≤(meets rs (rs.length - 1)).2))]):=by
  refine contract_run Tryz.func132 k132 rfl ?_
  simp only [body132,b132,res132,b132k0,b132k1,lkE, ↓reduceIte,reduceCtorEq,Nat.reduceEqDiff,Nat.reduceAdd,Nat.reduceMul,Nat.reduceSub,Nat.reduceLeDiff,Nat.reduceBEq,Int.reduceToNat,Int.reduceLE,Int.reduceLT,Int.reduceEq,Int.reduceNe,di]
  repeat (refine And.intro (by omega) ?_)
  have hlen:((rs.take rs.length).drop 1).length=rs.length - 1:=by simp
  have hget:∀ j,j<rs.length - 1→kn ((rs.take rs.length).drop 1) j=rn rs (j+1):=by
    intro j hj
    unfold kn rn
    rw [List.take_length,List.getD_eq_getElem?_getD,List.getD_eq_getElem?_getD,List.getElem?_drop,Nat.add_comm]
  refine loop_keep (α:=Nat) rfl (fun j=>rs.length - j) (fun j=>j≤rs.length - 1)
    (fun j=>[(2,.ref 2 0),(4,.ref 4 0),(11,.imm (.slc 2 (((rs.take rs.length).drop 1).map rnI))),(12,.imm (.int .i64 ((rs.take rs.length).drop 1).length)),(13,.imm (.int .i64 j))])
    (fun j=>[(2,.box [.imm (.int .i64 0),.imm (.int .i64 0)]),(4,.box [.imm (.int .i64 (meets rs j).1),.imm (.int .i64 (meets rs j).2)])]) 0 (Nat.zero_le _) (by simp only [↓reduceIte,reduceCtorEq,Nat.reduceEqDiff,Nat.reduceAdd,Nat.reduceMul,Nat.reduceSub,Nat.reduceLeDiff,Nat.reduceBEq,Int.reduceToNat,Int.reduceLE,Int.reduceLT,Int.reduceEq,Int.reduceNe,di] <;> rfl) ?_
  intro j hj ih
  simp only [res132,b132k0,b132k1,hlen,lkE, ↓reduceIte,reduceCtorEq,Nat.reduceEqDiff,Nat.reduceAdd,Nat.reduceMul,Nat.reduceSub,Nat.reduceLeDiff,Nat.reduceBEq,Int.reduceToNat,Int.reduceLE,Int.reduceLT,Int.reduceEq,Int.reduceNe,di]
  split
  · rename_i h4
    repeat (refine And.intro (by omega) ?_)
    rw [hget j (by omega),wrap64 (by omega) (by omega)]
    exact ih (j+1) _ _ (by omega) (by omega) (by simp only [hlen, ↓reduceIte,reduceCtorEq,Nat.reduceEqDiff,Nat.reduceAdd,Nat.reduceMul,Nat.reduceSub,Nat.reduceLeDiff,Nat.reduceBEq,Int.reduceToNat,Int.reduceLE,Int.reduceLT,Int.reduceEq,Int.reduceNe,di] <;> rfl)
  · rename_i h4
    have:j=rs.length - 1:=by omega
    subst this
    rfl
theorem p_AgreedOf {l:List Kn} {net:List Int} {rs:List Rdg} (hl:l.length≤1000000000000) (hn:net.length≤1000000000000) :
    Contract Tryz.prog 51 [tabI l,.slc 1 (net.map (.int .i64)),.slc 3 (rs.map rdI)]
    (if allErr l net rs=0 then if (meets (rs.map (perm l net)) (rs.length - 1)).1≤(meets (rs.map (perm l net)) (rs.length - 1)).2 then .tup [rnI (meets (rs.map (perm l net)) (rs.length - 1)),.int .i64 0] else .tup [rnI (0,0),.int .i64 13]
      else .tup [rnI (0,0),.int .i64 (allErr l net rs)]):=by
  have hc:=p_permitted (rs:=rs) hl hn
  refine contract_run Tryz.func51 k51 rfl ?_
  simp only [body51,b51,res51,b51k0,b51k1,lkE, ↓reduceIte,reduceCtorEq,Nat.reduceEqDiff,Nat.reduceAdd,Nat.reduceMul,Nat.reduceSub,Nat.reduceLeDiff,Nat.reduceBEq,Int.reduceToNat,Int.reduceLE,Int.reduceLT,Int.reduceEq,Int.reduceNe,di]
  by_cases h0:allErr l net rs=0
  · rw [if_pos h0] at hc ⊢
    have hr : 0<rs.length∧rs.length≤10:=by
      unfold allErr at h0
      split at h0
      · split at h0
        · have:=rdErr_ok h0; omega
        · contradiction
      · contradiction
    have hcm:=p_common (rs:=rs.map (perm l net)) (by simp; omega) (by simp; omega)
    rw [List.length_map] at hcm
    refine calls_of hc ?_; simp only [lkE,res51,b51k0,b51k1, ↓reduceIte,reduceCtorEq,Nat.reduceEqDiff,Nat.reduceAdd,Nat.reduceMul,Nat.reduceSub,Nat.reduceLeDiff,Nat.reduceBEq,Int.reduceToNat,Int.reduceLE,Int.reduceLT,Int.reduceEq,Int.reduceNe,di]
    refine calls_of hcm ?_; simp only [lkE,res51,b51k0,b51k1, ↓reduceIte,reduceCtorEq,Nat.reduceEqDiff,Nat.reduceAdd,Nat.reduceMul,Nat.reduceSub,Nat.reduceLeDiff,Nat.reduceBEq,Int.reduceToNat,Int.reduceLE,Int.reduceLT,Int.reduceEq,Int.reduceNe,di]
    split
    · rfl
    · rfl
  · rw [if_neg h0] at hc ⊢
    refine calls_of hc ?_; simp only [lkE,res51,b51k0,b51k1, ↓reduceIte,reduceCtorEq,Nat.reduceEqDiff,Nat.reduceAdd,Nat.reduceMul,Nat.reduceSub,Nat.reduceLeDiff,Nat.reduceBEq,Int.reduceToNat,Int.reduceLE,Int.reduceLT,Int.reduceEq,Int.reduceNe,di]
    rw [if_neg h0]; trivial
end Go.DI


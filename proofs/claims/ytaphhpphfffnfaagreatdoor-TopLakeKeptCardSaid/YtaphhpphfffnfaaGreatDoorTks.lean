/- Contracts: the program's tables of lakes, as it hands them out; pairs and states. No condition. -/
import Derived.Test.YtaphhpphfffnfaaGreatDoorTkr
set_option linter.unusedSimpArgs false
namespace Go.DI
open Go.Proofs Go.RowKit Lk
theorem p_holds {l:List Kn} {v:Int} (h : 0<l.length) (hl:l.length≤1000000000000):Contract Tryz.prog 218 [tabI l,.int .i64 v] (.bool (decide (isV l v))):=by
  refine contract_run Tryz.func218 k218 rfl ?_
  simp only [tabI,body218,b218,res218,lkE, ↓reduceIte,reduceCtorEq,Nat.reduceEqDiff,Nat.reduceAdd,Nat.reduceMul,Nat.reduceSub,Nat.reduceLeDiff,Nat.reduceBEq,Int.reduceToNat,Int.reduceLE,Int.reduceLT,Int.reduceEq,Int.reduceNe,di]
  refine calls_of (p_bottom h) ?_
  simp only [res218,lkE, ↓reduceIte,reduceCtorEq,Nat.reduceEqDiff,Nat.reduceAdd,Nat.reduceMul,Nat.reduceSub,Nat.reduceLeDiff,Nat.reduceBEq,Int.reduceToNat,Int.reduceLE,Int.reduceLT,Int.reduceEq,Int.reduceNe,di]
  refine calls_of (p_top h hl) ?_
  simp only [res218,lkE, ↓reduceIte,reduceCtorEq,Nat.reduceEqDiff,Nat.reduceAdd,Nat.reduceMul,Nat.reduceSub,Nat.reduceLeDiff,Nat.reduceBEq,Int.reduceToNat,Int.reduceLE,Int.reduceLT,Int.reduceEq,Int.reduceNe,di]
  refine calls_of p_within ?_
  simp only [res218,lkE, ↓reduceIte,reduceCtorEq,Nat.reduceEqDiff,Nat.reduceAdd,Nat.reduceMul,Nat.reduceSub,Nat.reduceLeDiff,Nat.reduceBEq,Int.reduceToNat,Int.reduceLE,Int.reduceLT,Int.reduceEq,Int.reduceNe,di]
  rfl
theorem valid_len {l:List Kn} (h:Valid l) : 0<l.length∧l.length≤1000000000000:=⟨by have:=h.two; omega,by have:=h.ten; omega⟩
theorem p_openVolume {l:List Kn} {v:Int} (hl:l.length≤1000000000000):Contract Tryz.prog 127 [tabI l,.int .i64 v]
    (if (chkT l).2=0 then (if isV l v then .tup [tabI l,.int .i64 0] else .tup [tabI l,.int .i64 2]) else .tup [tabI [],.int .i64 (chkT l).2]):=by
  refine contract_run Tryz.func127 k127 rfl ?_
  simp only [tabI,body127,b127,res127,b127k0,lkE, ↓reduceIte,reduceCtorEq,Nat.reduceEqDiff,Nat.reduceAdd,Nat.reduceMul,Nat.reduceSub,Nat.reduceLeDiff,Nat.reduceBEq,Int.reduceToNat,Int.reduceLE,Int.reduceLT,Int.reduceEq,Int.reduceNe,di]
  refine calls_of (p_tableErr hl) ?_
  simp only [res127,b127k0,lkE, ↓reduceIte,reduceCtorEq,Nat.reduceEqDiff,Nat.reduceAdd,Nat.reduceMul,Nat.reduceSub,Nat.reduceLeDiff,Nat.reduceBEq,Int.reduceToNat,Int.reduceLE,Int.reduceLT,Int.reduceEq,Int.reduceNe,di]
  split
  · rename_i h0
    have hv:=chkT_ok.1 h0
    have hz:=valid_len hv
    refine calls_of (p_holds hz.1 hz.2) ?_
    simp only [res127,b127k0,lkE, ↓reduceIte,reduceCtorEq,Nat.reduceEqDiff,Nat.reduceAdd,Nat.reduceMul,Nat.reduceSub,Nat.reduceLeDiff,Nat.reduceBEq,Int.reduceToNat,Int.reduceLE,Int.reduceLT,Int.reduceEq,Int.reduceNe,di]
    refine calls_of p_unless ?_
    simp only [res127,b127k0,lkE, ↓reduceIte,reduceCtorEq,Nat.reduceEqDiff,Nat.reduceAdd,Nat.reduceMul,Nat.reduceSub,Nat.reduceLeDiff,Nat.reduceBEq,Int.reduceToNat,Int.reduceLE,Int.reduceLT,Int.reduceEq,Int.reduceNe,di]
    split
    · rename_i h1; simp [h1]
    · rename_i h1; simp [h1]
  · rename_i h0
    rfl
theorem p_LevelAt {l:List Kn} {v:Int} (hl:l.length≤1000000000000):Contract Tryz.prog 49 [tabI l,.int .i64 v]
    (if (chkT l).2=0 then (if isV l v then .tup [.agg [.int .i64 (levLo l v),.int .i64 (levHi l v)],.int .i64 0] else .tup [.agg [.int .i64 0,.int .i64 0],.int .i64 2]) else .tup [.agg [.int .i64 0,.int .i64 0],.int .i64 (chkT l).2]):=by
  have hc:=p_openVolume (v:=v) hl
  by_cases h0:(chkT l).2=0
  · rw [if_pos h0] at hc ⊢
    have hv:=chkT_ok.1 h0
    by_cases h1:isV l v
    · rw [if_pos h1] at hc ⊢
      obtain ⟨i,hi,i1,i2,i3,i4,i5⟩:=at_volume hv h1
      have hin:=level_in hv h1 hi
      have ra:=hv.range i2
      have rb:=hv.range (i:=i - 1) (by omega)
      have dq:=dv_pos hv i1 i2
      have hce:levHi l v=levLo l v+min (levNum l v) 1:=by
        unfold levHi levLo levNum
        rw [hi,cdiv_eq dq.1]
        omega
      refine contract_run Tryz.func49 k49 rfl ?_
      simp only [body49,b49,res49,b49k0,lkE, ↓reduceIte,reduceCtorEq,Nat.reduceEqDiff,Nat.reduceAdd,Nat.reduceMul,Nat.reduceSub,Nat.reduceLeDiff,Nat.reduceBEq,Int.reduceToNat,Int.reduceLE,Int.reduceLT,Int.reduceEq,Int.reduceNe,di]
      refine calls_of hc ?_; simp only [lkE,res49,b49k0, ↓reduceIte,reduceCtorEq,Nat.reduceEqDiff,Nat.reduceAdd,Nat.reduceMul,Nat.reduceSub,Nat.reduceLeDiff,Nat.reduceBEq,Int.reduceToNat,Int.reduceLE,Int.reduceLT,Int.reduceEq,Int.reduceNe,di]
      refine calls_of (p_levelAt hv h1) ?_; simp only [lkE,res49,b49k0, ↓reduceIte,reduceCtorEq,Nat.reduceEqDiff,Nat.reduceAdd,Nat.reduceMul,Nat.reduceSub,Nat.reduceLeDiff,Nat.reduceBEq,Int.reduceToNat,Int.reduceLE,Int.reduceLT,Int.reduceEq,Int.reduceNe,di]
      rw [← hce,wrap64 (by omega) (by omega)]
    · rw [if_neg h1] at hc ⊢
      refine contract_run Tryz.func49 k49 rfl ?_
      simp only [body49,b49,res49,b49k0,lkE, ↓reduceIte,reduceCtorEq,Nat.reduceEqDiff,Nat.reduceAdd,Nat.reduceMul,Nat.reduceSub,Nat.reduceLeDiff,Nat.reduceBEq,Int.reduceToNat,Int.reduceLE,Int.reduceLT,Int.reduceEq,Int.reduceNe,di]
      refine calls_of hc ?_; simp only [lkE,res49,b49k0, ↓reduceIte,reduceCtorEq,Nat.reduceEqDiff,Nat.reduceAdd,Nat.reduceMul,Nat.reduceSub,Nat.reduceLeDiff,Nat.reduceBEq,Int.reduceToNat,Int.reduceLE,Int.reduceLT,Int.reduceEq,Int.reduceNe,di]
  · rw [if_neg h0] at hc ⊢
    refine contract_run Tryz.func49 k49 rfl ?_
    simp only [body49,b49,res49,b49k0,lkE, ↓reduceIte,reduceCtorEq,Nat.reduceEqDiff,Nat.reduceAdd,Nat.reduceMul,Nat.reduceSub,Nat.reduceLeDiff,Nat.reduceBEq,Int.reduceToNat,Int.reduceLE,Int.reduceLT,Int.reduceEq,Int.reduceNe,di]
    refine calls_of hc ?_; simp only [lkE,res49,b49k0, ↓reduceIte,reduceCtorEq,Nat.reduceEqDiff,Nat.reduceAdd,Nat.reduceMul,Nat.reduceSub,Nat.reduceLeDiff,Nat.reduceBEq,Int.reduceToNat,Int.reduceLE,Int.reduceLT,Int.reduceEq,Int.reduceNe,di]
    rw [if_neg h0]; trivial
end Go.DI


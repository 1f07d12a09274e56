/- Contracts: the reference's levels, volumes, steps and runs; copies. No condition. -/
import Derived.Test.YtaphhpphfffnfaaGreatDoorTkx
/- Contracts: the reference's levels, volumes, steps and runs; copies. No condition. -/
set_option linter.unusedSimpArgs false
namespace Go.DI
open Go.Proofs Go.RowKit Lk
theorem isV_bd {l:List Kn} (h:Valid l) {x:Int} (hx:isV l x) : 0≤x∧x≤1000000000:=by
  have z:=valid_len h
  have a:=h.range (i:=0) z.1
  have b:=h.range (i:=l.length - 1) (by omega)
  unfold isV Wi bot top at hx
  omega
end Go.DI

/- Contracts: the reference's pairs, steps and runs; copies. No condition. -/
set_option linter.unusedSimpArgs false
namespace Go.DI
open Go.Proofs Go.RowKit Lk
theorem r_PairErr {p:Pair} (h:Sm p):Contract Tryz.prog 122 [lpI p] (.int .i64 (pairErr p)):=by
  unfold pairErr
  refine contract_run Tryz.func122 k122 rfl ?_
  simp only [body122,b122,res122,b122k0,b122k1,b122k2,lkE, ↓reduceIte,reduceCtorEq,Nat.reduceEqDiff,Nat.reduceAdd,Nat.reduceMul,Nat.reduceSub,Nat.reduceLeDiff,Nat.reduceBEq,Int.reduceToNat,Int.reduceLE,Int.reduceLT,Int.reduceEq,Int.reduceNe,di]
  repeat (refine And.intro (by omega) ?_)
  refine calls_of (r_TableErr h.u) ?_; simp only [lkE,res122,b122k0,b122k1,b122k2, ↓reduceIte,reduceCtorEq,Nat.reduceEqDiff,Nat.reduceAdd,Nat.reduceMul,Nat.reduceSub,Nat.reduceLeDiff,Nat.reduceBEq,Int.reduceToNat,Int.reduceLE,Int.reduceLT,Int.reduceEq,Int.reduceNe,di]
  split
  · rename_i h1
    repeat (refine And.intro (by omega) ?_)
    refine calls_of (r_TableErr h.l) ?_; simp only [lkE,res122,b122k0,b122k1,b122k2, ↓reduceIte,reduceCtorEq,Nat.reduceEqDiff,Nat.reduceAdd,Nat.reduceMul,Nat.reduceSub,Nat.reduceLeDiff,Nat.reduceBEq,Int.reduceToNat,Int.reduceLE,Int.reduceLT,Int.reduceEq,Int.reduceNe,di]
    split
    · rename_i h2
      refine calls_of c_Within ?_; simp only [lkE,res122,b122k0,b122k1,b122k2, ↓reduceIte,reduceCtorEq,Nat.reduceEqDiff,Nat.reduceAdd,Nat.reduceMul,Nat.reduceSub,Nat.reduceLeDiff,Nat.reduceBEq,Int.reduceToNat,Int.reduceLE,Int.reduceLT,Int.reduceEq,Int.reduceNe,di]
      split
      · rename_i h3; rw [if_pos (show Wi p.rate 0 1000 from h3)]
      · rename_i h3; rw [if_neg (show ¬ Wi p.rate 0 1000 from h3)]
    · rename_i h2
      rfl
  · rename_i h1
    rfl
theorem r_StateErr {p:Pair} {s:Sta} (h:VPair p):Contract Tryz.prog 48 [lpI p,stI s] (.int .i64 (if stOk p s then 0 else 2)):=by
  have hu:=valid_len h.u
  have hl:=valid_len h.l
  refine contract_run Tryz.func48 k48 rfl ?_
  simp only [body48,b48,res48,b48k0,lkE, ↓reduceIte,reduceCtorEq,Nat.reduceEqDiff,Nat.reduceAdd,Nat.reduceMul,Nat.reduceSub,Nat.reduceLeDiff,Nat.reduceBEq,Int.reduceToNat,Int.reduceLE,Int.reduceLT,Int.reduceEq,Int.reduceNe,di]
  repeat (refine And.intro (by omega) ?_)
  refine calls_of (r_IsVolume hu.1 hu.2) ?_; simp only [lkE,res48,b48k0, ↓reduceIte,reduceCtorEq,Nat.reduceEqDiff,Nat.reduceAdd,Nat.reduceMul,Nat.reduceSub,Nat.reduceLeDiff,Nat.reduceBEq,Int.reduceToNat,Int.reduceLE,Int.reduceLT,Int.reduceEq,Int.reduceNe,di]
  split
  · rename_i h1
    repeat (refine And.intro (by omega) ?_)
    refine calls_of (r_IsVolume hl.1 hl.2) ?_; simp only [lkE,res48,b48k0, ↓reduceIte,reduceCtorEq,Nat.reduceEqDiff,Nat.reduceAdd,Nat.reduceMul,Nat.reduceSub,Nat.reduceLeDiff,Nat.reduceBEq,Int.reduceToNat,Int.reduceLE,Int.reduceLT,Int.reduceEq,Int.reduceNe,di]
    split
    · rename_i h2; rw [if_pos (show stOk p s from ⟨h1,h2⟩)]
    · rename_i h2; rw [if_neg (show ¬ stOk p s from fun k=>h2 k.2)]
  · rename_i h1
    rw [if_neg (show ¬ stOk p s from fun k=>h1 k.1)]
theorem r_BothErr {p:Pair} {s:Sta} (h:Sm p):Contract Tryz.prog 44 [lpI p,stI s] (.int .i64 (bothErr p s)):=by
  unfold bothErr
  refine contract_run Tryz.func44 k44 rfl ?_
  simp only [body44,b44,res44,b44k0,lkE, ↓reduceIte,reduceCtorEq,Nat.reduceEqDiff,Nat.reduceAdd,Nat.reduceMul,Nat.reduceSub,Nat.reduceLeDiff,Nat.reduceBEq,Int.reduceToNat,Int.reduceLE,Int.reduceLT,Int.reduceEq,Int.reduceNe,di]
  refine calls_of (r_PairErr h) ?_; simp only [lkE,res44,b44k0, ↓reduceIte,reduceCtorEq,Nat.reduceEqDiff,Nat.reduceAdd,Nat.reduceMul,Nat.reduceSub,Nat.reduceLeDiff,Nat.reduceBEq,Int.reduceToNat,Int.reduceLE,Int.reduceLT,Int.reduceEq,Int.reduceNe,di]
  split
  · rename_i h1
    refine calls_of (r_StateErr (pairErr_ok.1 h1)) ?_; simp only [lkE,res44,b44k0, ↓reduceIte,reduceCtorEq,Nat.reduceEqDiff,Nat.reduceAdd,Nat.reduceMul,Nat.reduceSub,Nat.reduceLeDiff,Nat.reduceBEq,Int.reduceToNat,Int.reduceLE,Int.reduceLT,Int.reduceEq,Int.reduceNe,di]
  · rename_i h1
    rfl
theorem r_FlowsErr {x:Flow}:Contract Tryz.prog 121 [flI x] (.int .i64 (flowErr x)):=by
  unfold flowErr
  refine contract_run Tryz.func121 k121 rfl ?_
  simp only [body121,b121,res121,b121k0,lkE, ↓reduceIte,reduceCtorEq,Nat.reduceEqDiff,Nat.reduceAdd,Nat.reduceMul,Nat.reduceSub,Nat.reduceLeDiff,Nat.reduceBEq,Int.reduceToNat,Int.reduceLE,Int.reduceLT,Int.reduceEq,Int.reduceNe,di]
  refine calls_of c_Within ?_; simp only [lkE,res121,b121k0, ↓reduceIte,reduceCtorEq,Nat.reduceEqDiff,Nat.reduceAdd,Nat.reduceMul,Nat.reduceSub,Nat.reduceLeDiff,Nat.reduceBEq,Int.reduceToNat,Int.reduceLE,Int.reduceLT,Int.reduceEq,Int.reduceNe,di]
  split
  · rename_i h1
    refine calls_of c_Within ?_; simp only [lkE,res121,b121k0, ↓reduceIte,reduceCtorEq,Nat.reduceEqDiff,Nat.reduceAdd,Nat.reduceMul,Nat.reduceSub,Nat.reduceLeDiff,Nat.reduceBEq,Int.reduceToNat,Int.reduceLE,Int.reduceLT,Int.reduceEq,Int.reduceNe,di]
    split
    · rename_i h2
      refine calls_of c_Within ?_; simp only [lkE,res121,b121k0, ↓reduceIte,reduceCtorEq,Nat.reduceEqDiff,Nat.reduceAdd,Nat.reduceMul,Nat.reduceSub,Nat.reduceLeDiff,Nat.reduceBEq,Int.reduceToNat,Int.reduceLE,Int.reduceLT,Int.reduceEq,Int.reduceNe,di]
      split
      · rename_i h3; rw [if_pos (show flowOk x from ⟨h1,h2,h3⟩)]
      · rename_i h3; rw [if_neg (show ¬ flowOk x from fun k=>h3 k.2.2)]
    · rename_i h2
      rw [if_neg (show ¬ flowOk x from fun k=>h2 k.2.1)]
  · rename_i h1
    rw [if_neg (show ¬ flowOk x from fun k=>h1 k.1)]
theorem r_ListErr {l:List Flow} (hl:l.length≤1000000000000):Contract Tryz.prog 41 [.slc 3 (l.map flI)] (.int .i64 (listErr l)):=by
  unfold listErr
  refine contract_run Tryz.func41 k41 rfl ?_
  simp only [body41,b41,res41,b41k0,b41k1,b41k2,b41k3, ↓reduceIte,reduceCtorEq,Nat.reduceEqDiff,Nat.reduceAdd,Nat.reduceMul,Nat.reduceSub,Nat.reduceLeDiff,Nat.reduceBEq,Int.reduceToNat,Int.reduceLE,Int.reduceLT,Int.reduceEq,Int.reduceNe,di]
  split
  · rename_i h
    rw [if_pos (by omega)]
  · rename_i h
    rw [if_neg (by omega)]
    refine loop_keep (α:=Nat) rfl (fun i=>l.length - i) (fun i=>i≤l.length∧(firstE (fun i=>flowErr (l.getD i default)) (l.length - i) i).2=(firstE (fun i=>flowErr (l.getD i default)) l.length 0).2)
      (fun i=>[(0,.imm (.slc 3 (l.map flI))),(3,.imm (.int .i64 i))]) (fun _=>[]) 0 ⟨Nat.zero_le _,rfl⟩ (by simp only [↓reduceIte,reduceCtorEq,Nat.reduceEqDiff,Nat.reduceAdd,Nat.reduceMul,Nat.reduceSub,Nat.reduceLeDiff,Nat.reduceBEq,Int.reduceToNat,Int.reduceLE,Int.reduceLT,Int.reduceEq,Int.reduceNe,di] <;> rfl) ?_
    intro i ⟨hi,he⟩ ih
    simp only [res41,b41k0,b41k1,b41k2,b41k3,lkE, ↓reduceIte,reduceCtorEq,Nat.reduceEqDiff,Nat.reduceAdd,Nat.reduceMul,Nat.reduceSub,Nat.reduceLeDiff,Nat.reduceBEq,Int.reduceToNat,Int.reduceLE,Int.reduceLT,Int.reduceEq,Int.reduceNe,di]
    split
    · rename_i h1
      rw [show l.length - i=(l.length - (i+1))+1 by omega,firstE_succ] at he
      repeat (refine And.intro (by omega) ?_)
      have hc:=r_FlowsErr (x:=l.getD i default)
      refine calls_of hc ?_; simp only [lkE,res41,b41k0,b41k1,b41k2,b41k3, ↓reduceIte,reduceCtorEq,Nat.reduceEqDiff,Nat.reduceAdd,Nat.reduceMul,Nat.reduceSub,Nat.reduceLeDiff,Nat.reduceBEq,Int.reduceToNat,Int.reduceLE,Int.reduceLT,Int.reduceEq,Int.reduceNe,di]
      split
      · rename_i h2
        rw [if_pos h2] at he
        rw [wrap64 (by omega) (by omega)]
        exact ih (i+1) _ _ (by omega) ⟨by omega,he⟩ (by simp only [↓reduceIte,reduceCtorEq,Nat.reduceEqDiff,Nat.reduceAdd,Nat.reduceMul,Nat.reduceSub,Nat.reduceLeDiff,Nat.reduceBEq,Int.reduceToNat,Int.reduceLE,Int.reduceLT,Int.reduceEq,Int.reduceNe,di] <;> rfl)
      · rename_i h2
        rw [if_neg h2] at he
        rw [← he]
    · rename_i h1
      rw [show l.length - i=0 by omega] at he
      rw [← he]
      rfl
theorem r_Copy {l:List Kn} (hl:l.length≤1000000000):Contract Tryz.prog 28 [tabI l] (tabI l):=by
  refine contract_run Tryz.func28 k28 rfl ?_
  simp only [body28,b28,res28,lkE, ↓reduceIte,reduceCtorEq,Nat.reduceEqDiff,Nat.reduceAdd,Nat.reduceMul,Nat.reduceSub,Nat.reduceLeDiff,Nat.reduceBEq,Int.reduceToNat,Int.reduceLE,Int.reduceLT,Int.reduceEq,Int.reduceNe,di]
  omega
theorem r_CopyList {l:List Flow} (hl:l.length≤1000000000):Contract Tryz.prog 36 [.slc 3 (l.map flI)] (.slc 3 (l.map flI)):=by
  refine contract_run Tryz.func36 k36 rfl ?_
  simp only [body36,b36,res36,lkE, ↓reduceIte,reduceCtorEq,Nat.reduceEqDiff,Nat.reduceAdd,Nat.reduceMul,Nat.reduceSub,Nat.reduceLeDiff,Nat.reduceBEq,Int.reduceToNat,Int.reduceLE,Int.reduceLT,Int.reduceEq,Int.reduceNe,di]
  omega
theorem r_CopyPair {p:Pair} (h1:p.u.length≤1000000000) (h2:p.l.length≤1000000000):Contract Tryz.prog 46 [lpI p] (lpI p):=by
  refine contract_run Tryz.func46 k46 rfl ?_
  simp only [body46,b46,res46,lkE, ↓reduceIte,reduceCtorEq,Nat.reduceEqDiff,Nat.reduceAdd,Nat.reduceMul,Nat.reduceSub,Nat.reduceLeDiff,Nat.reduceBEq,Int.reduceToNat,Int.reduceLE,Int.reduceLT,Int.reduceEq,Int.reduceNe,di]
  repeat (refine And.intro (by omega) ?_)
  refine calls_of (r_Copy h1) ?_; simp only [lkE,res46, ↓reduceIte,reduceCtorEq,Nat.reduceEqDiff,Nat.reduceAdd,Nat.reduceMul,Nat.reduceSub,Nat.reduceLeDiff,Nat.reduceBEq,Int.reduceToNat,Int.reduceLE,Int.reduceLT,Int.reduceEq,Int.reduceNe,di]
  repeat (refine And.intro (by omega) ?_)
  refine calls_of (r_Copy h2) ?_; simp only [lkE,res46, ↓reduceIte,reduceCtorEq,Nat.reduceEqDiff,Nat.reduceAdd,Nat.reduceMul,Nat.reduceSub,Nat.reduceLeDiff,Nat.reduceBEq,Int.reduceToNat,Int.reduceLE,Int.reduceLT,Int.reduceEq,Int.reduceNe,di]
end Go.DI


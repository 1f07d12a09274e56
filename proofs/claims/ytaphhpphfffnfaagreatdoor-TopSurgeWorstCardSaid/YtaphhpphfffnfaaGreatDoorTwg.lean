/- Contracts: the reference's runs. No condition. -/
import Derived.Test.YtaphhpphfffnfaaGreatDoorTwe
import Derived.Test.YtaphhpphfffnfaaGreatDoorTwf
set_option linter.unusedSimpArgs false
namespace Go.DI
open Go.Proofs Go.RowKit Sg
theorem c_CopyInts {a:List Int} (ha:a.length≤1000000000000):Contract Tryz.prog 52 [.slc 1 (a.map (.int .i64))] (.slc 1 (a.map (.int .i64))):=by
 refine contract_run Tryz.func52 k52 rfl ?_
 simp only [body52,b52,res52, ↓reduceIte,reduceCtorEq,Nat.reduceEqDiff,Nat.reduceAdd,Nat.reduceMul,Nat.reduceSub,Nat.reduceLeDiff,Nat.reduceBEq,Int.reduceToNat,Int.reduceLE,Int.reduceLT,Int.reduceEq,Int.reduceNe,di]
 omega
theorem r_LoadsErr {l:List Int} (hn:l.length≤1000000000):Contract Tryz.prog 79 [snI l] (.int .i64 (loadsErr l)):=by
 refine contract_run Tryz.func79 k79 rfl ?_
 simp only [body79,b79,res79,b79k0,b79k1,b79k2,b79k3,ruI,ssI,sbI,spI,swI,scI,stI,srI,saI,snI, ↓reduceIte,reduceCtorEq,Nat.reduceEqDiff,Nat.reduceAdd,Nat.reduceMul,Nat.reduceSub,Nat.reduceLeDiff,Nat.reduceBEq,Int.reduceToNat,Int.reduceLE,Int.reduceLT,Int.reduceEq,Int.reduceNe,di]
 unfold loadsErr
 by_cases h0 : 200<l.length
 ·rw [if_pos h0]
  simp only [show 200<(l.length:Int) by omega,ruI,ssI,sbI,spI,swI,scI,stI,srI,saI,snI, ↓reduceIte,reduceCtorEq,Nat.reduceEqDiff,Nat.reduceAdd,Nat.reduceMul,Nat.reduceSub,Nat.reduceLeDiff,Nat.reduceBEq,Int.reduceToNat,Int.reduceLE,Int.reduceLT,Int.reduceEq,Int.reduceNe,di]
 rw [if_neg h0]
 simp only [show ¬ 200<(l.length:Int) by omega,ruI,ssI,sbI,spI,swI,scI,stI,srI,saI,snI, ↓reduceIte,reduceCtorEq,Nat.reduceEqDiff,Nat.reduceAdd,Nat.reduceMul,Nat.reduceSub,Nat.reduceLeDiff,Nat.reduceBEq,Int.reduceToNat,Int.reduceLE,Int.reduceLT,Int.reduceEq,Int.reduceNe,di]
 refine loop_keep (α:=Nat) rfl (fun i=>l.length - i) (fun i=>i≤l.length∧∀ x ∈ l.take i,Wi x 0 1000)
  (fun i=>[(0,.imm (snI l)),(3,.imm (.int .i64 i))]) (fun _=>[]) 0 ⟨Nat.zero_le _,by simp⟩ (by simp only [ruI,ssI,sbI,spI,swI,scI,stI,srI,saI,snI, ↓reduceIte,reduceCtorEq,Nat.reduceEqDiff,Nat.reduceAdd,Nat.reduceMul,Nat.reduceSub,Nat.reduceLeDiff,Nat.reduceBEq,Int.reduceToNat,Int.reduceLE,Int.reduceLT,Int.reduceEq,Int.reduceNe,di] <;> rfl) ?_
 intro i ⟨hi,hs⟩ ih
 simp only [res79,b79k0,b79k1,b79k2,b79k3,ruI,ssI,sbI,spI,swI,scI,stI,srI,saI,snI, ↓reduceIte,reduceCtorEq,Nat.reduceEqDiff,Nat.reduceAdd,Nat.reduceMul,Nat.reduceSub,Nat.reduceLeDiff,Nat.reduceBEq,Int.reduceToNat,Int.reduceLE,Int.reduceLT,Int.reduceEq,Int.reduceNe,di]
 split
 case isFalse h =>
  have:i=l.length:=by omega
  subst this
  rw [List.take_length] at hs
  rw [if_pos hs]
 rename_i h
 have hlt:i<l.length:=by omega
 have hm:=getD_mem hlt
 repeat (refine And.intro (by omega) ?_)
 refine calls_of r_LoadErr ?_; simp only [ruI,ssI,sbI,spI,swI,scI,stI,srI,saI,snI,res79,b79k0,b79k1,b79k2,b79k3, ↓reduceIte,reduceCtorEq,Nat.reduceEqDiff,Nat.reduceAdd,Nat.reduceMul,Nat.reduceSub,Nat.reduceLeDiff,Nat.reduceBEq,Int.reduceToNat,Int.reduceLE,Int.reduceLT,Int.reduceEq,Int.reduceNe,di]
 unfold loadErr
 by_cases hw:Wi (l.getD i 0) 0 1000
 ·rw [if_pos hw]
  simp only [ruI,ssI,sbI,spI,swI,scI,stI,srI,saI,snI, ↓reduceIte,reduceCtorEq,Nat.reduceEqDiff,Nat.reduceAdd,Nat.reduceMul,Nat.reduceSub,Nat.reduceLeDiff,Nat.reduceBEq,Int.reduceToNat,Int.reduceLE,Int.reduceLT,Int.reduceEq,Int.reduceNe,di]
  rw [wrap64 (by omega) (by omega)]
  refine ih (i+1) _ _ (by omega) ⟨by omega,?_⟩ (by simp only [ruI,ssI,sbI,spI,swI,scI,stI,srI,saI,snI, ↓reduceIte,reduceCtorEq,Nat.reduceEqDiff,Nat.reduceAdd,Nat.reduceMul,Nat.reduceSub,Nat.reduceLeDiff,Nat.reduceBEq,Int.reduceToNat,Int.reduceLE,Int.reduceLT,Int.reduceEq,Int.reduceNe,di] <;> rfl)
  intro x hx
  rw [List.take_add_one,List.getElem?_eq_getElem hlt] at hx
  rcases List.mem_append.1 hx with hx | hx
  ·exact hs x hx
  ·simp only [Option.toList_some,List.mem_singleton] at hx
   rw [hx,show l[i]=l.getD i 0 by rw [List.getD_eq_getElem?_getD]; simp [hlt]]
   exact hw
 ·rw [if_neg hw]
  simp only [ruI,ssI,sbI,spI,swI,scI,stI,srI,saI,snI, ↓reduceIte,reduceCtorEq,Nat.reduceEqDiff,Nat.reduceAdd,Nat.reduceMul,Nat.reduceSub,Nat.reduceLeDiff,Nat.reduceBEq,Int.reduceToNat,Int.reduceLE,Int.reduceLT,Int.reduceEq,Int.reduceNe,di]
  rw [if_neg (fun k=>hw (k _ hm))]
end Go.DI


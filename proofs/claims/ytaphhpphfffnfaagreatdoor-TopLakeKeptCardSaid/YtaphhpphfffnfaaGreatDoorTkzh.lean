/- Contracts: tables and flows as strings, in the reference. No condition. -/
import Derived.Test.YtaphhpphfffnfaaGreatDoorTkzg
set_option linter.unusedSimpArgs false
set_option maxRecDepth 100000
namespace Go.DI
open Go.Proofs Go.RowKit Go.Lib Lk
theorem r_Same {a b:List Kn} (ha:a.length≤1000000000000):Contract Tryz.prog 32 [tabI a,tabI b] (.bool (decide (a=b))):=by
  refine contract_run Tryz.func32 k32 rfl ?_
  simp only [body32,b32,res32,b32k0,b32k1,b32k2,b32k3,lkE, ↓reduceIte,reduceCtorEq,Nat.reduceEqDiff,Nat.reduceAdd,Nat.reduceMul,Nat.reduceSub,Nat.reduceLeDiff,Nat.reduceBEq,Int.reduceToNat,Int.reduceLE,Int.reduceLT,Int.reduceEq,Int.reduceNe,di]
  split
  · rename_i hl
    have hl:a.length=b.length:=by omega
    refine loop_keep (α:=Nat) rfl (fun i=>a.length - i) (fun i=>i≤a.length∧∀ j,j<i→a.getD j default=b.getD j default)
      (fun i=>[(2,.ref 2 0),(3,.ref 3 0),(5,.imm (.int .i64 i))]) (fun _=>[(2,.box [.imm (.slc 2 (a.map knI))]),(3,.box [.imm (.slc 2 (b.map knI))])]) 0 ⟨Nat.zero_le _,fun j hj=>by omega⟩ (by simp only [lkE, ↓reduceIte,reduceCtorEq,Nat.reduceEqDiff,Nat.reduceAdd,Nat.reduceMul,Nat.reduceSub,Nat.reduceLeDiff,Nat.reduceBEq,Int.reduceToNat,Int.reduceLE,Int.reduceLT,Int.reduceEq,Int.reduceNe,di] <;> rfl) ?_
    intro i ⟨hi,he⟩ ih
    simp only [res32,b32k0,b32k1,b32k2,b32k3,lkE, ↓reduceIte,reduceCtorEq,Nat.reduceEqDiff,Nat.reduceAdd,Nat.reduceMul,Nat.reduceSub,Nat.reduceLeDiff,Nat.reduceBEq,Int.reduceToNat,Int.reduceLE,Int.reduceLT,Int.reduceEq,Int.reduceNe,di]
    split
    · rename_i h
      repeat (refine And.intro (by omega) ?_)
      split
      · rename_i h2
        have:¬ a=b:=fun k=>by subst k; simp at h2
        rw [decide_eq_false this]
      · rename_i h2
        have h3:kn a i=kn b i:=by
          simp only [Bool.not_eq_false,Bool.and_eq_true,decide_eq_true_eq] at h2
          exact Prod.ext h2.1 h2.2
        rw [wrapS (by omega) (by omega)]
        refine ih (i+1) _ _ (by omega) ⟨by omega,fun j hj => ?_⟩ (by simp only [lkE, ↓reduceIte,reduceCtorEq,Nat.reduceEqDiff,Nat.reduceAdd,Nat.reduceMul,Nat.reduceSub,Nat.reduceLeDiff,Nat.reduceBEq,Int.reduceToNat,Int.reduceLE,Int.reduceLT,Int.reduceEq,Int.reduceNe,di] <;> rfl)
        by_cases e:j=i
        · subst e; exact h3
        · exact he j (by omega)
    · rename_i h
      have:a=b:=eq_of_getD default hl (fun j hj=>he j (by omega))
      rw [decide_eq_true this]
  · rename_i hl
    have:¬ a=b:=fun k=>hl (by rw [k])
    rw [decide_eq_false this]
theorem r_SameList {a b:List Flow} (ha:a.length≤1000000000000):Contract Tryz.prog 40 [.slc 3 (a.map flI),.slc 3 (b.map flI)] (.bool (decide (a=b))):=by
  refine contract_run Tryz.func40 k40 rfl ?_
  simp only [body40,b40,res40,b40k0,b40k1,b40k2,b40k3,lkE, ↓reduceIte,reduceCtorEq,Nat.reduceEqDiff,Nat.reduceAdd,Nat.reduceMul,Nat.reduceSub,Nat.reduceLeDiff,Nat.reduceBEq,Int.reduceToNat,Int.reduceLE,Int.reduceLT,Int.reduceEq,Int.reduceNe,di]
  split
  · rename_i hl
    have hl:a.length=b.length:=by omega
    refine loop_keep (α:=Nat) rfl (fun i=>a.length - i) (fun i=>i≤a.length∧∀ j,j<i→a.getD j default=b.getD j default)
      (fun i=>[(0,.imm (.slc 3 (a.map flI))),(1,.imm (.slc 3 (b.map flI))),(5,.imm (.int .i64 i))]) (fun _=>[]) 0 ⟨Nat.zero_le _,fun j hj=>by omega⟩ (by simp only [lkE, ↓reduceIte,reduceCtorEq,Nat.reduceEqDiff,Nat.reduceAdd,Nat.reduceMul,Nat.reduceSub,Nat.reduceLeDiff,Nat.reduceBEq,Int.reduceToNat,Int.reduceLE,Int.reduceLT,Int.reduceEq,Int.reduceNe,di] <;> rfl) ?_
    intro i ⟨hi,he⟩ ih
    simp only [res40,b40k0,b40k1,b40k2,b40k3,lkE, ↓reduceIte,reduceCtorEq,Nat.reduceEqDiff,Nat.reduceAdd,Nat.reduceMul,Nat.reduceSub,Nat.reduceLeDiff,Nat.reduceBEq,Int.reduceToNat,Int.reduceLE,Int.reduceLT,Int.reduceEq,Int.reduceNe,di]
    split
    · rename_i h
      repeat (refine And.intro (by omega) ?_)
      split
      · rename_i h2
        have:¬ a=b:=fun k=>by subst k; simp at h2
        rw [decide_eq_false this]
      · rename_i h2
        have h3:a.getD i default=b.getD i default:=by
          simp only [Bool.not_eq_false,Bool.and_eq_true,decide_eq_true_eq] at h2
          generalize a.getD i default=x at h2 ⊢
          generalize b.getD i default=y at h2 ⊢
          cases x; cases y
          simp only [Flow.mk.injEq]
          exact h2
        rw [wrapS (by omega) (by omega)]
        refine ih (i+1) _ _ (by omega) ⟨by omega,fun j hj => ?_⟩ (by simp only [lkE, ↓reduceIte,reduceCtorEq,Nat.reduceEqDiff,Nat.reduceAdd,Nat.reduceMul,Nat.reduceSub,Nat.reduceLeDiff,Nat.reduceBEq,Int.reduceToNat,Int.reduceLE,Int.reduceLT,Int.reduceEq,Int.reduceNe,di] <;> rfl)
        by_cases e:j=i
        · subst e; exact h3
        · exact he j (by omega)
    · rename_i h
      have:a=b:=eq_of_getD default hl (fun j hj=>he j (by omega))
      rw [decide_eq_true this]
  · rename_i hl
    have:¬ a=b:=fun k=>hl (by rw [k])
    rw [decide_eq_false this]
end Go.DI


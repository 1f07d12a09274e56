/- Contracts: what the reference and the statements share; the examples. No condition. -/
import Derived.Test.YtaphhpphfffnfaaGreatDoorTad
import Derived.Test.YtaphhpphfffnfaaGreatDoorTaj
import Derived.Test.YtaphhpphfffnfaaGreatDoorTap
set_option linter.unusedSimpArgs false
set_option maxRecDepth 100000
namespace Go.DI
open Go.Proofs Go.RowKit
theorem eq_of_getD {α:Type} (d : α) {l m:List α} (h:l.length=m.length) (k:∀ j,j<l.length→l.getD j d=m.getD j d):l=m:=by
 apply List.ext_getElem h
 intro j h1 h2
 have:=k j h1
 simpa [List.getD_eq_getElem?_getD,h1,h2] using this
theorem c_Within {x lo hi:Int}:Contract Tryz.prog 47 [.int .i64 x,.int .i64 lo,.int .i64 hi] (.bool (decide (lo≤x∧x≤hi))):=by
 refine contract_run Tryz.func47 k47 rfl ?_
 simp only [body47,b47,res47, ↓reduceIte,reduceCtorEq,Nat.reduceEqDiff,Nat.reduceAdd,Nat.reduceMul,Nat.reduceSub,Nat.reduceLeDiff,Nat.reduceBEq,Int.reduceToNat,Int.reduceLE,Int.reduceLT,Int.reduceEq,Int.reduceNe,di]
 split
 ·rename_i h; simp [h]
 ·rename_i h; simp [h]
theorem c_Ints {a b:List Int} (ha:a.length≤1000000000000):Contract Tryz.prog 93 [nI a,nI b] (.bool (decide (a=b))):=by
 refine contract_run Tryz.func93 k93 rfl ?_
 simp only [body93,b93,res93,b93k0,b93k1,b93k2,b93k3,vaE, ↓reduceIte,reduceCtorEq,Nat.reduceEqDiff,Nat.reduceAdd,Nat.reduceMul,Nat.reduceSub,Nat.reduceLeDiff,Nat.reduceBEq,Int.reduceToNat,Int.reduceLE,Int.reduceLT,Int.reduceEq,Int.reduceNe,di]
 split
 ·rename_i hl
  have hl:a.length=b.length:=by omega
  refine loop_keep (α:=Nat) rfl (fun i=>a.length - i) (fun i=>i≤a.length∧∀ j,j<i→a.getD j 0=b.getD j 0)
   (fun i=>[(0,.imm (nI a)),(1,.imm (nI b)),(5,.imm (.int .i64 i))]) (fun _=>[]) 0 ⟨Nat.zero_le _,fun j hj=>by omega⟩ (by simp only [vaE, ↓reduceIte,reduceCtorEq,Nat.reduceEqDiff,Nat.reduceAdd,Nat.reduceMul,Nat.reduceSub,Nat.reduceLeDiff,Nat.reduceBEq,Int.reduceToNat,Int.reduceLE,Int.reduceLT,Int.reduceEq,Int.reduceNe,di] <;> rfl) ?_
  intro i ⟨hi,he⟩ ih
  simp only [res93,b93k0,b93k1,b93k2,b93k3,vaE, ↓reduceIte,reduceCtorEq,Nat.reduceEqDiff,Nat.reduceAdd,Nat.reduceMul,Nat.reduceSub,Nat.reduceLeDiff,Nat.reduceBEq,Int.reduceToNat,Int.reduceLE,Int.reduceLT,Int.reduceEq,Int.reduceNe,di]
  split
  ·rename_i h
   repeat (refine And.intro (by omega) ?_)
   split
   ·rename_i h2
    rw [wrap64 (by omega) (by omega)]
    refine ih (i+1) _ _ (by omega) ⟨by omega,fun j hj => ?_⟩ (by simp only [vaE, ↓reduceIte,reduceCtorEq,Nat.reduceEqDiff,Nat.reduceAdd,Nat.reduceMul,Nat.reduceSub,Nat.reduceLeDiff,Nat.reduceBEq,Int.reduceToNat,Int.reduceLE,Int.reduceLT,Int.reduceEq,Int.reduceNe,di] <;> rfl)
    by_cases e:j=i
    ·subst e; exact h2
    ·exact he j (by omega)
   ·rename_i h2
    have:¬ a=b:=fun k=>h2 (by rw [k])
    rw [decide_eq_false this]
  ·rename_i h
   have:a=b:=eq_of_getD 0 hl (fun j hj=>he j (by omega))
   rw [decide_eq_true this]
 ·rename_i hl
  have:¬ a=b:=fun k=>hl (by rw [k])
  rw [decide_eq_false this]
theorem c_CopyInts {a:List Int} (ha:a.length≤1000000000000):Contract Tryz.prog 52 [nI a] (nI a):=by
 refine contract_run Tryz.func52 k52 rfl ?_
 simp only [body52,b52,res52,vaE, ↓reduceIte,reduceCtorEq,Nat.reduceEqDiff,Nat.reduceAdd,Nat.reduceMul,Nat.reduceSub,Nat.reduceLeDiff,Nat.reduceBEq,Int.reduceToNat,Int.reduceLE,Int.reduceLT,Int.reduceEq,Int.reduceNe,di]
 omega
theorem r_CopyLine {x:Ln} (hx:Few x):Contract Tryz.prog 13 [lnI x] (lnI x):=by
 refine contract_run Tryz.func13 k13 rfl ?_
 simp only [body13,b13,res13,vaE, ↓reduceIte,reduceCtorEq,Nat.reduceEqDiff,Nat.reduceAdd,Nat.reduceMul,Nat.reduceSub,Nat.reduceLeDiff,Nat.reduceBEq,Int.reduceToNat,Int.reduceLE,Int.reduceLT,Int.reduceEq,Int.reduceNe,di]
 have h1:=hx.1
 repeat (refine And.intro (by first | omega | exact all_int _ | (simp only [zeros_len,List.length_append,List.length_take,List.length_drop,List.length_set,List.length_cons,List.length_nil,List.length_map]; omega)) ?_)
 refine calls_of (c_CopyInts (a:=x.ar) (by have:=hx.2; omega)) ?_; simp only [vaE,res13, ↓reduceIte,reduceCtorEq,Nat.reduceEqDiff,Nat.reduceAdd,Nat.reduceMul,Nat.reduceSub,Nat.reduceLeDiff,Nat.reduceBEq,Int.reduceToNat,Int.reduceLE,Int.reduceLT,Int.reduceEq,Int.reduceNe,di]
theorem r_CopyState {s:Ws} (hs:FewS s):Contract Tryz.prog 64 [wsI s] (wsI s):=by
 refine contract_run Tryz.func64 k64 rfl ?_
 simp only [body64,b64,res64,vaE, ↓reduceIte,reduceCtorEq,Nat.reduceEqDiff,Nat.reduceAdd,Nat.reduceMul,Nat.reduceSub,Nat.reduceLeDiff,Nat.reduceBEq,Int.reduceToNat,Int.reduceLE,Int.reduceLT,Int.reduceEq,Int.reduceNe,di]
 refine calls_of (c_CopyInts (a:=s.F) (by have:=hs.1; omega)) ?_; simp only [vaE,res64, ↓reduceIte,reduceCtorEq,Nat.reduceEqDiff,Nat.reduceAdd,Nat.reduceMul,Nat.reduceSub,Nat.reduceLeDiff,Nat.reduceBEq,Int.reduceToNat,Int.reduceLE,Int.reduceLT,Int.reduceEq,Int.reduceNe,di]
 refine calls_of (c_CopyInts (a:=s.B) (by have:=hs.2.1; omega)) ?_; simp only [vaE,res64, ↓reduceIte,reduceCtorEq,Nat.reduceEqDiff,Nat.reduceAdd,Nat.reduceMul,Nat.reduceSub,Nat.reduceLeDiff,Nat.reduceBEq,Int.reduceToNat,Int.reduceLE,Int.reduceLT,Int.reduceEq,Int.reduceNe,di]
 refine calls_of (c_CopyInts (a:=s.L) (by have:=hs.2.2; omega)) ?_; simp only [vaE,res64, ↓reduceIte,reduceCtorEq,Nat.reduceEqDiff,Nat.reduceAdd,Nat.reduceMul,Nat.reduceSub,Nat.reduceLeDiff,Nat.reduceBEq,Int.reduceToNat,Int.reduceLE,Int.reduceLT,Int.reduceEq,Int.reduceNe,di]
def pipeX:Ln:=⟨[(2,3)],[]⟩
def lineX:Ln:=⟨[(1,1),(1,3)],[2]⟩
theorem l_Pipe:Contract Tryz.prog 89 [] (lnI pipeX):=by
 refine contract_run Tryz.func89 k89 rfl ?_
 simp only [body89,b89,res89,pipeX,vaE, ↓reduceIte,reduceCtorEq,Nat.reduceEqDiff,Nat.reduceAdd,Nat.reduceMul,Nat.reduceSub,Nat.reduceLeDiff,Nat.reduceBEq,Int.reduceToNat,Int.reduceLE,Int.reduceLT,Int.reduceEq,Int.reduceNe,di]
theorem l_Line:Contract Tryz.prog 90 [] (lnI lineX):=by
 refine contract_run Tryz.func90 k90 rfl ?_
 simp only [body90,b90,res90,lineX,vaE, ↓reduceIte,reduceCtorEq,Nat.reduceEqDiff,Nat.reduceAdd,Nat.reduceMul,Nat.reduceSub,Nat.reduceLeDiff,Nat.reduceBEq,Int.reduceToNat,Int.reduceLE,Int.reduceLT,Int.reduceEq,Int.reduceNe,di]
theorem few_pipe:Few pipeX:=⟨by decide,by decide⟩
theorem few_line:Few lineX:=⟨by decide,by decide⟩
theorem a_4:Contract Tryz.prog 65 [lnI lineX,.int .i64 1] (.tup [ratI ((-2, -2),(9,0)),.int .i64 0]):=by
 have h:=w_ImpedanceAt (x:=lineX) (h:=1) few_line
 rwa [if_pos (by decide),if_neg (by decide),show impL (lowM (lineMat (opn lineX) 1))=((-2, -2),(9,0)) by decide] at h
end Go.DI


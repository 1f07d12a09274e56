/- Contracts of the base's small functions. No condition. -/
import Derived.Test.YtaphhpphfffnfaaGreatDoorTkc
import Derived.IntWalk
/- Contracts of the base's small functions. No condition. -/
set_option linter.unusedSimpArgs false
namespace Go.DI
open Go.Proofs Go.RowKit
theorem wrap64 {n:Int} (h1 : -9223372036854775808≤n) (h2:n≤9223372036854775807):IntKind.wrap .i64 n=n:=IntWalk.i64_in n ⟨h1,h2⟩
theorem c_Size {n:Int} (h1 : -9223372036854775807≤n) (h2:n≤9223372036854775807):Contract Tryz.prog 200 [.int .i64 n] (.int .i64 n.natAbs):=by
  refine contract_run Tryz.func200 k200 rfl ?_
  simp only [body200,b200,res200, ↓reduceIte,reduceCtorEq,Nat.reduceEqDiff,Nat.reduceAdd,Nat.reduceMul,Nat.reduceSub,Nat.reduceLeDiff,Nat.reduceBEq,Int.reduceToNat,Int.reduceLE,Int.reduceLT,Int.reduceEq,Int.reduceNe,di]
  rw [wrap64 (by omega) (by omega)]
  congr 2
  omega
theorem c_Within {x lo hi:Int}:Contract Tryz.prog 47 [.int .i64 x,.int .i64 lo,.int .i64 hi] (.bool (decide (lo≤x∧x≤hi))):=by
  refine contract_run Tryz.func47 k47 rfl ?_
  simp only [body47,b47,res47, ↓reduceIte,reduceCtorEq,Nat.reduceEqDiff,Nat.reduceAdd,Nat.reduceMul,Nat.reduceSub,Nat.reduceLeDiff,Nat.reduceBEq,Int.reduceToNat,Int.reduceLE,Int.reduceLT,Int.reduceEq,Int.reduceNe,di]
  split
  · rename_i h; simp [h]
  · rename_i h; simp [h]
theorem c_digit {l:List Int} {i:Int} (hi : 0≤i):Contract Tryz.prog 336 [.slc 1 (l.map (.int .i64)),.int .i64 i] (.int .i64 (l.getD i.toNat 0)):=by
  refine contract_run Tryz.func336 k336 rfl ?_
  simp only [body336,b336,res336,b336k0, ↓reduceIte,reduceCtorEq,Nat.reduceEqDiff,Nat.reduceAdd,Nat.reduceMul,Nat.reduceSub,Nat.reduceLeDiff,Nat.reduceBEq,Int.reduceToNat,Int.reduceLE,Int.reduceLT,Int.reduceEq,Int.reduceNe,di]
  split
  · rename_i h; exact ⟨hi,h⟩
  · rename_i h; rw [List.getD_eq_getElem?_getD,List.getElem?_eq_none (by omega)]
    simp
def trimLen (l:List Int):Nat→Nat
  | 0=>0
  | n+1=>if l.getD n 0=0 then trimLen l n else n+1
def trim (l:List Int):List Int:=l.take (trimLen l l.length)
theorem trimLen_succ (l:List Int) (n:Nat):trimLen l (n+1)=if l.getD n 0=0 then trimLen l n else n+1:=rfl
theorem trimLen_le (l:List Int):∀ n,trimLen l n≤n
  | 0=>Nat.le_refl _
  | n+1=>by
    unfold trimLen
    split
    · exact Nat.le_succ_of_le (trimLen_le l n)
    · exact Nat.le_refl _
theorem c_trimmed {l:List Int} (hl:l.length≤9223372036854775807):Contract Tryz.prog 326 [.slc 1 (l.map (.int .i64))] (.slc 1 ((trim l).map (.int .i64))):=by
  refine contract_run Tryz.func326 k326 rfl ?_
  simp only [body326,b326,res326,b326k0,b326k1, ↓reduceIte,reduceCtorEq,Nat.reduceEqDiff,Nat.reduceAdd,Nat.reduceMul,Nat.reduceSub,Nat.reduceLeDiff,Nat.reduceBEq,Int.reduceToNat,Int.reduceLE,Int.reduceLT,Int.reduceEq,Int.reduceNe,di]
  refine loop_keep (α:=Nat) rfl (fun n=>n) (fun n=>n≤l.length∧trimLen l n=trimLen l l.length)
    (fun n=>[(0,.imm (.slc 1 (l.map (.int .i64)))),(3,.imm (.int .i64 n))]) (fun _=>[]) l.length ⟨Nat.le_refl _,rfl⟩ (by simp only [↓reduceIte,reduceCtorEq,Nat.reduceEqDiff,Nat.reduceAdd,Nat.reduceMul,Nat.reduceSub,Nat.reduceLeDiff,Nat.reduceBEq,Int.reduceToNat,Int.reduceLE,Int.reduceLT,Int.reduceEq,Int.reduceNe,di]) ?_
  intro n ⟨hn,ht⟩ ih
  have fin:trimLen l n=n→l.take n=trim l:=fun h=>by unfold trim; rw [← ht,h]
  simp only [res326,b326k0,b326k1, ↓reduceIte,reduceCtorEq,Nat.reduceEqDiff,Nat.reduceAdd,Nat.reduceMul,Nat.reduceSub,Nat.reduceLeDiff,Nat.reduceBEq,Int.reduceToNat,Int.reduceLE,Int.reduceLT,Int.reduceEq,Int.reduceNe,di]
  cases n with
  | zero =>
    rw [if_neg (by omega)]
    have:=fin rfl
    refine ⟨by omega,?_⟩
    rw [← this]
  | succ m =>
    rw [if_pos (by omega),wrap64 (by omega) (by omega)]
    have e:(((m+1:Nat):Int) - 1)=m:=by omega
    rw [e]
    refine ⟨by omega,by omega,?_⟩
    split
    · rename_i h
      refine ih m _ _ (by omega) ⟨by omega,?_⟩ (by simp only [↓reduceIte,reduceCtorEq,Nat.reduceEqDiff,Nat.reduceAdd,Nat.reduceMul,Nat.reduceSub,Nat.reduceLeDiff,Nat.reduceBEq,Int.reduceToNat,Int.reduceLE,Int.reduceLT,Int.reduceEq,Int.reduceNe,di])
      rw [← ht,trimLen_succ,if_pos (by simpa using h)]
    · rename_i h
      have:=fin (by rw [trimLen_succ,if_neg (by simpa using h)])
      refine ⟨by omega,?_⟩
      rw [← this]
end Go.DI

/- Numbers of whatever size, as digits to the base of a thousand million: plain arithmetic, no program in sight. -/
namespace Go.DI
def val:List Int→Int
 | []=>0
 | d :: l=>d+1000000000 * val l
def WF (l:List Int):Prop:=∀ d ∈ l,0≤d∧d<1000000000
theorem WF.nil:WF []:=by intro d h; cases h
theorem WF.cons {d:Int} {l:List Int} (h1 : 0≤d) (h2:d<1000000000) (h:WF l):WF (d :: l):=by
 intro x hx
 rcases List.mem_cons.1 hx with rfl | k
 ·exact ⟨h1,h2⟩
 ·exact h x k
theorem WF.tail {d:Int} {l:List Int} (h:WF (d :: l)):WF l:=fun x hx=>h x (List.mem_cons_of_mem _ hx)
theorem WF.head {d:Int} {l:List Int} (h:WF (d :: l)) : 0≤d∧d<1000000000:=h d (by simp)
theorem WF.append {l m:List Int} (h:WF l) (h':WF m):WF (l ++ m):=by
 intro x hx
 rcases List.mem_append.1 hx with k | k
 ·exact h x k
 ·exact h' x k
theorem WF.take {l:List Int} (h:WF l) (n:Nat):WF (l.take n):=fun x hx=>h x (List.mem_of_mem_take hx)
theorem WF.getD {l:List Int} (h:WF l) (i:Nat) : 0≤l.getD i 0∧l.getD i 0<1000000000:=by
 rw [List.getD_eq_getElem?_getD]
 cases hi:l[i]? with
 | none=>simp
 | some d=>simpa using h d (List.mem_of_getElem? hi)
theorem val_nonneg:∀ {l:List Int},WF l→0≤val l
 | [],_=>by simp [val]
 | d :: l,h=>by
  have:=val_nonneg h.tail
  have:=h.head
  simp only [val]
  omega
theorem val_append:∀ (l m:List Int),val (l ++ m)=val l+1000000000 ^ l.length * val m
 | [],m=>by simp [val]
 | d :: l,m=>by
  simp only [List.cons_append,val,val_append l m,List.length_cons,Int.pow_succ]
  rw [Int.mul_add,Int.add_assoc,Int.mul_comm (1000000000 ^ l.length) 1000000000,Int.mul_assoc]
theorem val_lt:∀ {l:List Int},WF l→val l<1000000000 ^ l.length
 | [],_=>by simp [val]
 | d :: l,h=>by
  have ih:=val_lt h.tail
  have:=h.head
  simp only [val,List.length_cons,Int.pow_succ]
  omega
def digs (n:Nat):List Int:=if n=0 then [] else ((n % 1000000000:Nat):Int) :: digs (n / 1000000000)
termination_by n
decreasing_by omega
theorem digs_zero:digs 0=[]:=by unfold digs; simp
theorem digs_pos {n:Nat} (h:n ≠ 0):digs n=((n % 1000000000:Nat):Int) :: digs (n / 1000000000):=by
 rw [digs,if_neg h]
theorem digs_nil {n:Nat}:digs n=[]↔n=0:=by
 by_cases h:n=0
 ·subst h; simp [digs_zero]
 ·rw [digs_pos h]; simp [h]
theorem wf_digs:∀ (n:Nat),WF (digs n):=by
 intro n
 induction n using Nat.strongRecOn with
 | _ n ih =>
  by_cases h:n=0
  ·subst h; rw [digs_zero]; exact WF.nil
  ·rw [digs_pos h]
   exact WF.cons (by omega) (by omega) (ih _ (by omega))
theorem val_digs:∀ (n:Nat),val (digs n)=n:=by
 intro n
 induction n using Nat.strongRecOn with
 | _ n ih =>
  by_cases h:n=0
  ·subst h; rw [digs_zero]; rfl
  ·rw [digs_pos h]
   simp only [val,ih _ (show n / 1000000000<n by omega)]
   omega
theorem trimLen_cons (d:Int) (r:List Int):∀ n,trimLen (d :: r) (n+1)=if trimLen r n=0 then (if d=0 then 0 else 1) else trimLen r n+1
 | 0=>by
  rw [trimLen_succ]
  simp [trimLen]
 | n+1=>by
  rw [trimLen_succ,trimLen_cons d r n,trimLen_succ r n]
  have e:(d :: r).getD (n+1) 0=r.getD n 0:=by simp [List.getD_eq_getElem?_getD]
  rw [e]
  split
  ·rfl
  ·simp
theorem trim_cons (d:Int) (r:List Int):trim (d :: r)=if trimLen r r.length=0 then (if d=0 then [] else [d]) else d :: trim r:=by
 unfold trim
 rw [List.length_cons,trimLen_cons]
 split
 ·split <;> simp
 ·simp
theorem trim_nil_iff (l:List Int):trim l=[]↔trimLen l l.length=0:=by
 have h:=trimLen_le l l.length
 unfold trim
 rw [List.take_eq_nil_iff]
 constructor
 ·rintro (h1 | h1)
  ·exact h1
  ·subst h1; rfl
 ·exact .inl
theorem trim_digs:∀ {l:List Int},WF l→trim l=digs (val l).toNat
 | [],_=>by
  have:trim []=[]:=rfl
  rw [this]; simp [val,digs_zero]
 | d :: r,h=>by
  have ih:=trim_digs h.tail
  have hd:=h.head
  have hr:=val_nonneg h.tail
  have hm:((val r).toNat:Int)=val r:=Int.toNat_of_nonneg hr
  generalize hmm:(val r).toNat=m at ih hm
  have hv:(val (d :: r)).toNat=d.toNat+1000000000 * m:=by
   simp only [val,← hm]; omega
  rw [trim_cons,hv]
  by_cases h0:m=0
  ·subst h0
   rw [digs_zero] at ih
   rw [if_pos ((trim_nil_iff r).1 ih)]
   by_cases hd0:d=0
   ·subst hd0; simp [digs_zero]
   ·rw [if_neg hd0,digs_pos (by omega)]
    have e1:(((d.toNat+1000000000 * 0) % 1000000000:Nat):Int)=d:=by omega
    have e2:(d.toNat+1000000000 * 0) / 1000000000=0:=by omega
    rw [e1,e2,digs_zero]
  ·have hn:¬ trimLen r r.length=0:=fun k=>h0 (digs_nil.1 (ih.symm.trans ((trim_nil_iff r).2 k)))
   rw [if_neg hn,ih,digs_pos (n:=d.toNat+1000000000 * m) (by omega)]
   have e1:(((d.toNat+1000000000 * m) % 1000000000:Nat):Int)=d:=by omega
   have e2:(d.toNat+1000000000 * m) / 1000000000=m:=by omega
   rw [e1,e2]
theorem digs_length_le:∀ (k n:Nat),n<1000000000 ^ k→(digs n).length≤k
 | 0,n,h=>by
  have:n=0:=by simpa using h
  subst this; simp [digs_zero]
 | k+1,n,h=>by
  by_cases h0:n=0
  ·subst h0; simp [digs_zero]
  ·rw [digs_pos h0,List.length_cons]
   have:=digs_length_le k (n / 1000000000) (by
    rw [Nat.pow_succ] at h
    omega)
   omega
def wide (z:Int):IV:=.agg [.int .i64 z.sign,.slc 1 ((digs z.natAbs).map (.int .i64))]
end Go.DI


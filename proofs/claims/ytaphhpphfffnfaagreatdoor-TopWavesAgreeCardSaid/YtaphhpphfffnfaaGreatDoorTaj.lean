/- Contracts: the run of a law, as an iterator, and what reads it. No condition. -/
import Derived.Test.YtaphhpphfffnfaaGreatDoorTai
/- Contracts: the run of a law, as an iterator, and what reads it. No condition. -/
set_option linter.unusedSimpArgs false
set_option maxRecDepth 100000
namespace Go.DI
open Go.Proofs Go.RowKit
theorem w_run {x:Ow} {law:List Int}:Contract Tryz.prog 186 [owI x,nI law] (.func 250 [] [.ptr (owI x),.ptr (.agg [nI law])]):=by
 refine contract_run Tryz.func186 k186 rfl ?_
 simp only [body186,b186,res186,vaE, ↓reduceIte,reduceCtorEq,Nat.reduceEqDiff,Nat.reduceAdd,Nat.reduceMul,Nat.reduceSub,Nat.reduceLeDiff,Nat.reduceBEq,Int.reduceToNat,Int.reduceLE,Int.reduceLT,Int.reduceEq,Int.reduceNe,di]
def runY (x:Ow) (law:List Int):Nat→Nat→List (List IV)
 | _,0=>[]
 | t,k+1=>[.int .i64 (valve x law t),wsI (lawS x law (t+1))] :: runY x law (t+1) k
theorem runY_get {x:Ow} {law:List Int}:∀ {k t n:Nat} {y:List IV},(runY x law t k)[n]? = some y→n<k∧y=[.int .i64 (valve x law (t+n)),wsI (lawS x law (t+n+1))]
 | 0,t,n,y,h=>by simp [runY] at h
 | k+1,t,0,y,h=>by simp [runY] at h; exact ⟨by omega,by rw [← h]; rfl⟩
 | k+1,t,n+1,y,h=>by
  simp only [runY,List.getElem?_cons_succ] at h
  obtain ⟨h1,h2⟩:=runY_get h
  exact ⟨by omega,by rw [h2,show t+1+n=t+(n+1) by omega]⟩
theorem runY_length {x:Ow} {law:List Int}:∀ (k t:Nat),(runY x law t k).length=k
 | 0,t=>rfl
 | k+1,t=>by simp [runY,runY_length k]
theorem it_run {x:Ow} {law:List Int} (hx:OwOk x) (hl:law.length≤1000000) {k:Nat} (hk : 1≤k∧k≤100000) (l:Nat) :
  BC Tryz.prog 250 [.yld l,.imm (.ptr (owI x)),.imm (.ptr (.agg [nI law]))] (lookR [(0,.seq l (true,some (runY x law 0 k)))]) fun _ R'=>seqOver l true R':=by
 have hn:=hx.nb
 have hars:=hx.ars
 have hlen:=hx.len
 refine bc_run Tryz.func250 k250 rfl rfl ?_
 simp only [body250,b250,res250,b250k0,vaE, ↓reduceIte,reduceCtorEq,Nat.reduceEqDiff,Nat.reduceAdd,Nat.reduceMul,Nat.reduceSub,Nat.reduceLeDiff,Nat.reduceBEq,Int.reduceToNat,Int.reduceLE,Int.reduceLT,Int.reduceEq,Int.reduceNe,di]
 refine calls_of (w_rest (x:=x) (by omega) (by omega)) ?_; simp only [vaE,res250,b250k0, ↓reduceIte,reduceCtorEq,Nat.reduceEqDiff,Nat.reduceAdd,Nat.reduceMul,Nat.reduceSub,Nat.reduceLeDiff,Nat.reduceBEq,Int.reduceToNat,Int.reduceLE,Int.reduceLT,Int.reduceEq,Int.reduceNe,di]
 refine loop_keep (α:=Nat) rfl (fun t=>k - t) (fun t=>t<k)
  (fun t=>[(0,.yld l),(1,.imm (.ptr (owI x))),(2,.imm (.ptr (.agg [nI law]))),(4,.ref 4 0),(5,.imm (.int .i64 t))])
  (fun t=>[(0,.seq l (true,some (runY x law t (k - t)))),(4,.box [.imm (nI (lawS x law t).F),.imm (nI (lawS x law t).B),.imm (nI (lawS x law t).L)])]) 0 (by omega) (by simp only [vaE, ↓reduceIte,reduceCtorEq,Nat.reduceEqDiff,Nat.reduceAdd,Nat.reduceMul,Nat.reduceSub,Nat.reduceLeDiff,Nat.reduceBEq,Int.reduceToNat,Int.reduceLE,Int.reduceLT,Int.reduceEq,Int.reduceNe,di] <;> rfl) ?_
 intro t ht ih
 have hsh:=sh_law hn.1 (law:=law) t
 have hf:=hsh.f
 simp only [res250,b250k0,vaE, ↓reduceIte,reduceCtorEq,Nat.reduceEqDiff,Nat.reduceAdd,Nat.reduceMul,Nat.reduceSub,Nat.reduceLeDiff,Nat.reduceBEq,Int.reduceToNat,Int.reduceLE,Int.reduceLT,Int.reduceEq,Int.reduceNe,di]
 refine calls_of (w_at (law:=law) (t:=t) hl (by omega)) ?_; simp only [vaE,res250,b250k0, ↓reduceIte,reduceCtorEq,Nat.reduceEqDiff,Nat.reduceAdd,Nat.reduceMul,Nat.reduceSub,Nat.reduceLeDiff,Nat.reduceBEq,Int.reduceToNat,Int.reduceLE,Int.reduceLT,Int.reduceEq,Int.reduceNe,di]
 refine calls_of (w_last (x:=x) (by omega)) ?_; simp only [vaE,res250,b250k0, ↓reduceIte,reduceCtorEq,Nat.reduceEqDiff,Nat.reduceAdd,Nat.reduceMul,Nat.reduceSub,Nat.reduceLeDiff,Nat.reduceBEq,Int.reduceToNat,Int.reduceLE,Int.reduceLT,Int.reduceEq,Int.reduceNe,di]
 repeat (refine And.intro (by first | omega | exact all_int _ | (simp only [zeros_len,List.length_append,List.length_take,List.length_drop,List.length_set,List.length_cons,List.length_nil,List.length_map]; omega)) ?_)
 rw [show (x.n - 1).toNat=x.n.toNat - 1 by omega]
 refine calls_of (w_stepped (s:=lawS x law t) (c:=atL law t) hx hsh) ?_; simp only [vaE,res250,b250k0, ↓reduceIte,reduceCtorEq,Nat.reduceEqDiff,Nat.reduceAdd,Nat.reduceMul,Nat.reduceSub,Nat.reduceLeDiff,Nat.reduceBEq,Int.reduceToNat,Int.reduceLE,Int.reduceLT,Int.reduceEq,Int.reduceNe,di]
 rw [show k - t=(k - (t+1))+1 by omega]
 refine do_yield rfl rfl rfl ?_ ?_
 ·intro hr
  have hne:=hr rfl
  have hlt:t+1<k:=by
   rcases Nat.lt_or_ge (t+1) k with h | h
   ·exact h
   ·exfalso
    apply hne
    rw [show k - (t+1)=0 by omega]
    rfl
  simp only [res250,b250k0,vaE, ↓reduceIte,reduceCtorEq,Nat.reduceEqDiff,Nat.reduceAdd,Nat.reduceMul,Nat.reduceSub,Nat.reduceLeDiff,Nat.reduceBEq,Int.reduceToNat,Int.reduceLE,Int.reduceLT,Int.reduceEq,Int.reduceNe,di]
  rw [wrap64 (by omega) (by omega)]
  exact ih (t+1) _ _ (by omega) hlt (by simp only [vaE, ↓reduceIte,reduceCtorEq,Nat.reduceEqDiff,Nat.reduceAdd,Nat.reduceMul,Nat.reduceSub,Nat.reduceLeDiff,Nat.reduceBEq,Int.reduceToNat,Int.reduceLE,Int.reduceLT,Int.reduceEq,Int.reduceNe,di] <;> rfl)
 ·simp only [res250,b250k0,vaE, ↓reduceIte,reduceCtorEq,Nat.reduceEqDiff,Nat.reduceAdd,Nat.reduceMul,Nat.reduceSub,Nat.reduceLeDiff,Nat.reduceBEq,Int.reduceToNat,Int.reduceLE,Int.reduceLT,Int.reduceEq,Int.reduceNe,di]
  rw [outD_nil res250]
  exact ⟨_,rfl,rfl,.inr rfl⟩
theorem w_ValvePressures {x:Ln} {law:List Int} {t:Int} (hx:Few x) (hl:law.length≤1000000):Contract Tryz.prog 88 [lnI x,nI law,.int .i64 t] (if lawRunE x law t=0 then .tup [nI (valveL (opn x) law t.toNat),.int .i64 0] else .tup [nI [],.int .i64 (lawRunE x law t)]):=by
 refine contract_run Tryz.func88 k88 rfl ?_
 simp only [body88,b88,res88,b88k0,b88k1,vaE, ↓reduceIte,reduceCtorEq,Nat.reduceEqDiff,Nat.reduceAdd,Nat.reduceMul,Nat.reduceSub,Nat.reduceLeDiff,Nat.reduceBEq,Int.reduceToNat,Int.reduceLE,Int.reduceLT,Int.reduceEq,Int.reduceNe,di]
 refine calls_of (w_openRun hx hl) ?_; simp only [vaE,res88,b88k0,b88k1, ↓reduceIte,reduceCtorEq,Nat.reduceEqDiff,Nat.reduceAdd,Nat.reduceMul,Nat.reduceSub,Nat.reduceLeDiff,Nat.reduceBEq,Int.reduceToNat,Int.reduceLE,Int.reduceLT,Int.reduceEq,Int.reduceNe,di]
 split
 rotate_left
 ·rfl
 rename_i h0
 have hz:=lawRunE_zero.1 h0
 have hox:opnE x=opn x:=by unfold opnE; rw [if_pos (chkL_ok.2 hz.1)]
 have how:=opn_ok hz.1
 rw [hox]
 refine calls_of (w_run (x:=opn x) (law:=law)) ?_; simp only [vaE,res88,b88k0,b88k1, ↓reduceIte,reduceCtorEq,Nat.reduceEqDiff,Nat.reduceAdd,Nat.reduceMul,Nat.reduceSub,Nat.reduceLeDiff,Nat.reduceBEq,Int.reduceToNat,Int.reduceLE,Int.reduceLT,Int.reduceEq,Int.reduceNe,di]
 refine range_plain (gf:=250) (first:=[]) (caps:=[.ptr (owI (opn x)),.ptr (.agg [nI law])]) (runY (opn x) law 0 t.toNat) true rfl rfl (it_run how hl (by omega)) (by
   intro y hy
   obtain ⟨n,hn⟩:=List.getElem?_of_mem hy
   rw [(runY_get hn).2]; rfl) rfl (fun n (y:Nat)=>y=n∧n<t.toNat) (fun y=>[(5,.box [.imm (.int .i64 t)]),(10,.box [.own 1010]),(1010,.tok 1 ((valveL (opn x) law y).map (IV.int .i64)))]) 0 ⟨rfl,by omega⟩ (by rw [keepRes_look]; simp only [↓reduceIte,reduceCtorEq,Nat.reduceEqDiff,Nat.reduceAdd,Nat.reduceMul,Nat.reduceSub,Nat.reduceLeDiff,Nat.reduceBEq,Int.reduceToNat,Int.reduceLE,Int.reduceLT,Int.reduceEq,Int.reduceNe,di] <;> rfl) ?_ ?_
 ·rintro n y m hy ⟨rfl,hn⟩
  obtain ⟨_,rfl⟩:=runY_get hy
  have hvl:=valveL_length (x:=opn x) (law:=law) (k:=m)
  simp only [b88a0,b88r0,vaE, ↓reduceIte,reduceCtorEq,Nat.reduceEqDiff,Nat.reduceAdd,Nat.reduceMul,Nat.reduceSub,Nat.reduceLeDiff,Nat.reduceBEq,Int.reduceToNat,Int.reduceLE,Int.reduceLT,Int.reduceEq,Int.reduceNe,di]
  repeat (refine And.intro (by first | omega | exact all_int _ | (simp only [zeros_len,List.length_append,List.length_take,List.length_drop,List.length_set,List.length_cons,List.length_nil,List.length_map]; omega)) ?_)
  rw [Nat.zero_add,← valveL_succ,valveL_length]
  split
  ·rename_i h
   rw [show t.toNat=m+1 by omega]
   rfl
  ·exact ⟨m+1,⟨rfl,by omega⟩,rfl,by rw [runY_length]; omega⟩
 ·intro y h; cases h
end Go.DI

/- Contracts: the fastest law. No condition. -/
set_option linter.unusedSimpArgs false
set_option maxRecDepth 100000
namespace Go.DI
open Go.Proofs Go.RowKit
end Go.DI


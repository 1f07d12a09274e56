/- Contracts: the reference's orders. No condition. -/
import Derived.Test.YtaphhpphfffnfaaGreatDoorTwg
import Derived.Test.YtaphhpphfffnfaaGreatDoorTwh
set_option linter.unusedSimpArgs false
namespace Go.DI
open Go.Proofs Go.RowKit Sg
theorem c_Has {l:List Int} {v:Int} (hn:l.length≤1000000000):Contract Tryz.prog 290 [snI l,.int .i64 v] (.bool (decide (v ∈ l))):=by
 refine contract_run Tryz.func290 k290 rfl ?_
 simp only [body290,b290,res290,b290k0,b290k1,b290k2,ruI,ssI,sbI,spI,swI,scI,stI,srI,saI,snI, ↓reduceIte,reduceCtorEq,Nat.reduceEqDiff,Nat.reduceAdd,Nat.reduceMul,Nat.reduceSub,Nat.reduceLeDiff,Nat.reduceBEq,Int.reduceToNat,Int.reduceLE,Int.reduceLT,Int.reduceEq,Int.reduceNe,di]
 refine loop_keep (α:=Nat) rfl (fun i=>l.length - i) (fun i=>i≤l.length∧v ∉ l.take i)
  (fun i=>[(0,.imm (snI l)),(1,.imm (.int .i64 v)),(5,.imm (.int .i64 i))]) (fun _=>[]) 0 ⟨Nat.zero_le _,by simp⟩ (by simp only [ruI,ssI,sbI,spI,swI,scI,stI,srI,saI,snI, ↓reduceIte,reduceCtorEq,Nat.reduceEqDiff,Nat.reduceAdd,Nat.reduceMul,Nat.reduceSub,Nat.reduceLeDiff,Nat.reduceBEq,Int.reduceToNat,Int.reduceLE,Int.reduceLT,Int.reduceEq,Int.reduceNe,di] <;> rfl) ?_
 intro i ⟨hi,hs⟩ ih
 simp only [res290,b290k0,b290k1,b290k2,ruI,ssI,sbI,spI,swI,scI,stI,srI,saI,snI, ↓reduceIte,reduceCtorEq,Nat.reduceEqDiff,Nat.reduceAdd,Nat.reduceMul,Nat.reduceSub,Nat.reduceLeDiff,Nat.reduceBEq,Int.reduceToNat,Int.reduceLE,Int.reduceLT,Int.reduceEq,Int.reduceNe,di]
 split
 case isFalse h =>
  have:i=l.length:=by omega
  subst this
  rw [List.take_length] at hs
  rw [decide_eq_false hs]
 rename_i h
 have hlt:i<l.length:=by omega
 have hm:=getD_mem hlt
 repeat (refine And.intro (by omega) ?_)
 split
 ·rename_i h2
  rw [← h2,decide_eq_true hm]
 ·rename_i h2
  rw [wrap64 (by omega) (by omega)]
  refine ih (i+1) _ _ (by omega) ⟨by omega,?_⟩ (by simp only [ruI,ssI,sbI,spI,swI,scI,stI,srI,saI,snI, ↓reduceIte,reduceCtorEq,Nat.reduceEqDiff,Nat.reduceAdd,Nat.reduceMul,Nat.reduceSub,Nat.reduceLeDiff,Nat.reduceBEq,Int.reduceToNat,Int.reduceLE,Int.reduceLT,Int.reduceEq,Int.reduceNe,di] <;> rfl)
  intro hx
  rw [List.take_add_one,List.getElem?_eq_getElem hlt] at hx
  rcases List.mem_append.1 hx with hx | hx
  ·exact hs hx
  ·simp only [Option.toList_some,List.mem_singleton] at hx
   rw [show l[i]=l.getD i 0 by rw [List.getD_eq_getElem?_getD]; simp [hlt]] at hx
   exact h2 hx.symm
theorem r_permitted {p:Pl} {o:List Int} (hp:PlanOk p) (ho:Idx p o):Contract Tryz.prog 289 [spI p,snI o] (.bool (permL p.ch p.load o)):=by
 have hpl:=hp.load
 have hol:=ho.1
 refine contract_run Tryz.func289 k289 rfl ?_
 simp only [body289,b289,res289,b289k0,b289k1,b289k2,ruI,ssI,sbI,spI,swI,scI,stI,srI,saI,snI, ↓reduceIte,reduceCtorEq,Nat.reduceEqDiff,Nat.reduceAdd,Nat.reduceMul,Nat.reduceSub,Nat.reduceLeDiff,Nat.reduceBEq,Int.reduceToNat,Int.reduceLE,Int.reduceLT,Int.reduceEq,Int.reduceNe,di]
 refine loop_keep (α:=Nat × Int) rfl (fun q=>o.length - q.1) (fun q=>q.1≤o.length∧(0≤q.2∧q.2≤1000)∧permL p.ch p.load o=permL p.ch q.2 (o.drop q.1))
  (fun q=>[(1,.imm (snI o)),(2,.ref 2 0),(5,.imm (.int .i64 q.2)),(6,.imm (.int .i64 q.1))])
  (fun _=>[(2,.box [.imm (.int .i64 p.load),.imm (snI p.ch),.imm (.int .i64 p.wait),.imm (.int .i64 p.ticks)])]) (0,p.load) ⟨Nat.zero_le _,hp.load,rfl⟩ (by simp only [ruI,ssI,sbI,spI,swI,scI,stI,srI,saI,snI, ↓reduceIte,reduceCtorEq,Nat.reduceEqDiff,Nat.reduceAdd,Nat.reduceMul,Nat.reduceSub,Nat.reduceLeDiff,Nat.reduceBEq,Int.reduceToNat,Int.reduceLE,Int.reduceLT,Int.reduceEq,Int.reduceNe,di] <;> rfl) ?_
 rintro ⟨i,load⟩ ⟨hi,hb,he⟩ ih
 dsimp only at hi hb he ⊢
 simp only [res289,b289k0,b289k1,b289k2,ruI,ssI,sbI,spI,swI,scI,stI,srI,saI,snI, ↓reduceIte,reduceCtorEq,Nat.reduceEqDiff,Nat.reduceAdd,Nat.reduceMul,Nat.reduceSub,Nat.reduceLeDiff,Nat.reduceBEq,Int.reduceToNat,Int.reduceLE,Int.reduceLT,Int.reduceEq,Int.reduceNe,di]
 split
 ·rename_i h
  have hlt:i<o.length:=by omega
  have hx:=ho.2 _ (getD_mem hlt)
  rw [getD_drop hlt] at he
  generalize o.getD i 0=x at hx he
  have hn:=nth_bd hp x
  repeat (refine And.intro (by omega) ?_)
  rw [show p.ch.getD x.toNat 0=nth p.ch x from rfl]
  rw [show IntKind.wrap .i64 (load+nth p.ch x)=load+nth p.ch x from wrap64 (by omega) (by omega)]
  refine calls_of r_LoadErr ?_; simp only [ruI,ssI,sbI,spI,swI,scI,stI,srI,saI,snI,res289,b289k0,b289k1,b289k2, ↓reduceIte,reduceCtorEq,Nat.reduceEqDiff,Nat.reduceAdd,Nat.reduceMul,Nat.reduceSub,Nat.reduceLeDiff,Nat.reduceBEq,Int.reduceToNat,Int.reduceLE,Int.reduceLT,Int.reduceEq,Int.reduceNe,di]
  rw [permL_cons] at he
  unfold loadErr
  by_cases h2:Wi (load+nth p.ch x) 0 1000
  ·simp only [h2,decide_true,Bool.true_and] at he
   simp only [h2,ruI,ssI,sbI,spI,swI,scI,stI,srI,saI,snI, ↓reduceIte,reduceCtorEq,Nat.reduceEqDiff,Nat.reduceAdd,Nat.reduceMul,Nat.reduceSub,Nat.reduceLeDiff,Nat.reduceBEq,Int.reduceToNat,Int.reduceLE,Int.reduceLT,Int.reduceEq,Int.reduceNe,di]
   rw [wrap64 (by omega) (by omega)]
   refine ih (i+1,load+nth p.ch x) _ _ (by dsimp only; omega) ⟨by dsimp only; omega,h2,he⟩ (by simp only [ruI,ssI,sbI,spI,swI,scI,stI,srI,saI,snI, ↓reduceIte,reduceCtorEq,Nat.reduceEqDiff,Nat.reduceAdd,Nat.reduceMul,Nat.reduceSub,Nat.reduceLeDiff,Nat.reduceBEq,Int.reduceToNat,Int.reduceLE,Int.reduceLT,Int.reduceEq,Int.reduceNe,di] <;> rfl)
  ·simp only [h2,decide_false,Bool.false_and] at he
   simp only [h2,ruI,ssI,sbI,spI,swI,scI,stI,srI,saI,snI, ↓reduceIte,reduceCtorEq,Nat.reduceEqDiff,Nat.reduceAdd,Nat.reduceMul,Nat.reduceSub,Nat.reduceLeDiff,Nat.reduceBEq,Int.reduceToNat,Int.reduceLE,Int.reduceLT,Int.reduceEq,Int.reduceNe,di]
   rw [he]
 ·rename_i h
  have:i=o.length:=by omega
  subst this
  rw [he]
  simp [permL]
theorem b_CopyInts {l:List Int} (hl:l.length≤1000000000):BC Tryz.prog 52 [.imm (snI l)] (lookR []) fun r R'=>r = .own 1000∧R'=lookR [(1000,.tok 1 (l.map (IV.int .i64)))]:=by
 refine bc_run Tryz.func52 k1052 rfl rfl ?_
 simp only [body1052,b1052,res1052,ruI,ssI,sbI,spI,swI,scI,stI,srI,saI,snI, ↓reduceIte,reduceCtorEq,Nat.reduceEqDiff,Nat.reduceAdd,Nat.reduceMul,Nat.reduceSub,Nat.reduceLeDiff,Nat.reduceBEq,Int.reduceToNat,Int.reduceLE,Int.reduceLT,Int.reduceEq,Int.reduceNe,di]
 repeat (refine And.intro (by omega) ?_)
 refine run_ren rfl (by decide) (by decide) (by decide) ?_
 simp only [ruI,ssI,sbI,spI,swI,scI,stI,srI,saI,snI, ↓reduceIte,reduceCtorEq,Nat.reduceEqDiff,Nat.reduceAdd,Nat.reduceMul,Nat.reduceSub,Nat.reduceLeDiff,Nat.reduceBEq,Int.reduceToNat,Int.reduceLE,Int.reduceLT,Int.reduceEq,Int.reduceNe,di]
 rw [outD_one res1052,getD_tmp]
 exact ⟨_,rfl,rfl,rfl⟩
theorem r_orders {p:Pl} (hp:PlanOk p):∀ (f:Nat) (o:List Int),o.length+f=p.ch.length→(∀ i ∈ o,0≤i∧i<p.ch.length) →
  Contract Tryz.prog 247 [spI p,snI o] (.slc 1 ((if permL p.ch p.load o=true then ordF p f o else []).map snI))
 | 0,o,hl,ho=>by
  have hpl:=hp.len
  refine contract_run Tryz.func247 k247 rfl ?_
  simp only [body247,b247,res247,b247k0,b247k1,b247k2,b247k3,b247k4,ruI,ssI,sbI,spI,swI,scI,stI,srI,saI,snI, ↓reduceIte,reduceCtorEq,Nat.reduceEqDiff,Nat.reduceAdd,Nat.reduceMul,Nat.reduceSub,Nat.reduceLeDiff,Nat.reduceBEq,Int.reduceToNat,Int.reduceLE,Int.reduceLT,Int.reduceEq,Int.reduceNe,di]
  refine calls_of (r_permitted hp ⟨by omega,ho⟩) ?_; simp only [ruI,ssI,sbI,spI,swI,scI,stI,srI,saI,snI,res247,b247k0,b247k1,b247k2,b247k3,b247k4, ↓reduceIte,reduceCtorEq,Nat.reduceEqDiff,Nat.reduceAdd,Nat.reduceMul,Nat.reduceSub,Nat.reduceLeDiff,Nat.reduceBEq,Int.reduceToNat,Int.reduceLE,Int.reduceLT,Int.reduceEq,Int.reduceNe,di]
  cases hm:permL p.ch p.load o
  ·simp only [ruI,ssI,sbI,spI,swI,scI,stI,srI,saI,snI, ↓reduceIte,reduceCtorEq,Nat.reduceEqDiff,Nat.reduceAdd,Nat.reduceMul,Nat.reduceSub,Nat.reduceLeDiff,Nat.reduceBEq,Int.reduceToNat,Int.reduceLE,Int.reduceLT,Int.reduceEq,Int.reduceNe,di]
  ·simp only [ruI,ssI,sbI,spI,swI,scI,stI,srI,saI,snI, ↓reduceIte,reduceCtorEq,Nat.reduceEqDiff,Nat.reduceAdd,Nat.reduceMul,Nat.reduceSub,Nat.reduceLeDiff,Nat.reduceBEq,Int.reduceToNat,Int.reduceLE,Int.reduceLT,Int.reduceEq,Int.reduceNe,di]
   rw [if_pos (by omega)]
   refine calls_of (c_CopyInts (a:=o) (by omega)) ?_; simp only [ruI,ssI,sbI,spI,swI,scI,stI,srI,saI,snI,res247,b247k0,b247k1,b247k2,b247k3,b247k4, ↓reduceIte,reduceCtorEq,Nat.reduceEqDiff,Nat.reduceAdd,Nat.reduceMul,Nat.reduceSub,Nat.reduceLeDiff,Nat.reduceBEq,Int.reduceToNat,Int.reduceLE,Int.reduceLT,Int.reduceEq,Int.reduceNe,di]
   rfl
 | f+1,o,hl,ho=>by
  have hpl:=hp.len
  refine contract_run Tryz.func247 k247 rfl ?_
  simp only [body247,b247,res247,b247k0,b247k1,b247k2,b247k3,b247k4,ruI,ssI,sbI,spI,swI,scI,stI,srI,saI,snI, ↓reduceIte,reduceCtorEq,Nat.reduceEqDiff,Nat.reduceAdd,Nat.reduceMul,Nat.reduceSub,Nat.reduceLeDiff,Nat.reduceBEq,Int.reduceToNat,Int.reduceLE,Int.reduceLT,Int.reduceEq,Int.reduceNe,di]
  refine calls_of (r_permitted hp ⟨by omega,ho⟩) ?_; simp only [ruI,ssI,sbI,spI,swI,scI,stI,srI,saI,snI,res247,b247k0,b247k1,b247k2,b247k3,b247k4, ↓reduceIte,reduceCtorEq,Nat.reduceEqDiff,Nat.reduceAdd,Nat.reduceMul,Nat.reduceSub,Nat.reduceLeDiff,Nat.reduceBEq,Int.reduceToNat,Int.reduceLE,Int.reduceLT,Int.reduceEq,Int.reduceNe,di]
  cases hm:permL p.ch p.load o
  ·simp only [ruI,ssI,sbI,spI,swI,scI,stI,srI,saI,snI, ↓reduceIte,reduceCtorEq,Nat.reduceEqDiff,Nat.reduceAdd,Nat.reduceMul,Nat.reduceSub,Nat.reduceLeDiff,Nat.reduceBEq,Int.reduceToNat,Int.reduceLE,Int.reduceLT,Int.reduceEq,Int.reduceNe,di]
  simp only [ruI,ssI,sbI,spI,swI,scI,stI,srI,saI,snI, ↓reduceIte,reduceCtorEq,Nat.reduceEqDiff,Nat.reduceAdd,Nat.reduceMul,Nat.reduceSub,Nat.reduceLeDiff,Nat.reduceBEq,Int.reduceToNat,Int.reduceLE,Int.reduceLT,Int.reduceEq,Int.reduceNe,di]
  rw [if_neg (by omega)]
  obtain ⟨B,hB⟩ : ∃ B:Nat,B=256:=⟨_,rfl⟩
  refine loop_keep (α:=Nat × List (List Int)) rfl (fun q=>p.ch.length - q.1) (fun q=>q.1≤p.ch.length∧q.2.length≤B * q.1∧q.2 ++ ordR p f o q.1=ordF p (f+1) o)
   (fun q=>[(1,.imm (snI o)),(2,.pim (spI p)),(5,.own 5),(6,.imm (.int .i64 q.1))])
   (fun q=>[(5,.tok 1 (q.2.map snI))]) (0,[]) ⟨Nat.zero_le _,by simp,rfl⟩ (by simp only [ruI,ssI,sbI,spI,swI,scI,stI,srI,saI,snI, ↓reduceIte,reduceCtorEq,Nat.reduceEqDiff,Nat.reduceAdd,Nat.reduceMul,Nat.reduceSub,Nat.reduceLeDiff,Nat.reduceBEq,Int.reduceToNat,Int.reduceLE,Int.reduceLT,Int.reduceEq,Int.reduceNe,di] <;> rfl) ?_
  rintro ⟨i,L⟩ ⟨hi,hL,he⟩ ih
  dsimp only at hi hL he ⊢
  simp only [res247,b247k0,b247k1,b247k2,b247k3,b247k4,ruI,ssI,sbI,spI,swI,scI,stI,srI,saI,snI, ↓reduceIte,reduceCtorEq,Nat.reduceEqDiff,Nat.reduceAdd,Nat.reduceMul,Nat.reduceSub,Nat.reduceLeDiff,Nat.reduceBEq,Int.reduceToNat,Int.reduceLE,Int.reduceLT,Int.reduceEq,Int.reduceNe,di]
  split
  case isFalse h =>
   have:i=p.ch.length:=by omega
   subst this
   rw [ordR_end,List.append_nil] at he
   rw [he]
  rename_i h
  have hlt:i<p.ch.length:=by omega
  rw [ordR_step hlt] at he
  refine calls_of (c_Has (l:=o) (v:=i) (by omega)) ?_; simp only [ruI,ssI,sbI,spI,swI,scI,stI,srI,saI,snI,res247,b247k0,b247k1,b247k2,b247k3,b247k4, ↓reduceIte,reduceCtorEq,Nat.reduceEqDiff,Nat.reduceAdd,Nat.reduceMul,Nat.reduceSub,Nat.reduceLeDiff,Nat.reduceBEq,Int.reduceToNat,Int.reduceLE,Int.reduceLT,Int.reduceEq,Int.reduceNe,di]
  by_cases hin:(i:Int) ∈ o
  ·simp only [hin,decide_true,ruI,ssI,sbI,spI,swI,scI,stI,srI,saI,snI, ↓reduceIte,reduceCtorEq,Nat.reduceEqDiff,Nat.reduceAdd,Nat.reduceMul,Nat.reduceSub,Nat.reduceLeDiff,Nat.reduceBEq,Int.reduceToNat,Int.reduceLE,Int.reduceLT,Int.reduceEq,Int.reduceNe,di]
   rw [wrap64 (by omega) (by omega)]
   refine ih (i+1,L) _ _ (by dsimp only; omega) ⟨by dsimp only; omega,Nat.le_trans hL (Nat.mul_le_mul_left _ (by omega)),?_⟩ (by simp only [ruI,ssI,sbI,spI,swI,scI,stI,srI,saI,snI, ↓reduceIte,reduceCtorEq,Nat.reduceEqDiff,Nat.reduceAdd,Nat.reduceMul,Nat.reduceSub,Nat.reduceLeDiff,Nat.reduceBEq,Int.reduceToNat,Int.reduceLE,Int.reduceLT,Int.reduceEq,Int.reduceNe,di] <;> rfl)
   unfold oneF at he
   rw [if_pos hin] at he
   exact he
  simp only [hin,decide_false,ruI,ssI,sbI,spI,swI,scI,stI,srI,saI,snI, ↓reduceIte,reduceCtorEq,Nat.reduceEqDiff,Nat.reduceAdd,Nat.reduceMul,Nat.reduceSub,Nat.reduceLeDiff,Nat.reduceBEq,Int.reduceToNat,Int.reduceLE,Int.reduceLT,Int.reduceEq,Int.reduceNe,di]
  have hidx:∀ j ∈ o ++ [(i:Int)],0≤j∧j<(p.ch.length:Int):=by
   intro j hj
   rcases List.mem_append.1 hj with hj | hj
   ·exact ho j hj
   ·rw [List.mem_singleton] at hj
    omega
  have hgo:=r_orders hp f (o ++ [(i:Int)]) (by simp; omega) hidx
  have hone:oneF p o i (ordF p f (o ++ [(i:Int)]))=if permL p.ch p.load (o ++ [(i:Int)])=true then ordF p f (o ++ [(i:Int)]) else []:=by
   unfold oneF
   rw [if_neg hin]
  rw [hone] at he
  have hlen:(if permL p.ch p.load (o ++ [(i:Int)])=true then ordF p f (o ++ [(i:Int)]) else []).length≤B:=by
   split
   ·have h1:=ordF_length (p:=p) f (o ++ [(i:Int)])
    have h2:p.ch.length ^ f≤4 ^ 4:=Nat.le_trans (Nat.pow_le_pow_left hp.len _) (Nat.pow_le_pow_right (by omega) (by omega))
    omega
   ·simp
  generalize (if permL p.ch p.load (o ++ [(i:Int)])=true then ordF p f (o ++ [(i:Int)]) else [])=M at hgo he hlen
  refine do_lend rfl (by rw [restr_nil]; exact b_CopyInts (l:=o) (by omega)) rfl rfl ?_
  rintro x R' ⟨rfl,rfl⟩
  refine ⟨_,rfl,rfl,?_⟩
  simp only [res247,b247k0,b247k1,b247k2,b247k3,b247k4,ruI,ssI,sbI,spI,swI,scI,stI,srI,saI,snI, ↓reduceIte,reduceCtorEq,Nat.reduceEqDiff,Nat.reduceAdd,Nat.reduceMul,Nat.reduceSub,Nat.reduceLeDiff,Nat.reduceBEq,Int.reduceToNat,Int.reduceLE,Int.reduceLT,Int.reduceEq,Int.reduceNe,di]
  repeat (refine And.intro (by omega) ?_)
  refine calls_of hgo ?_
  simp only [res247,b247k0,b247k1,b247k2,b247k3,b247k4,ruI,ssI,sbI,spI,swI,scI,stI,srI,saI,snI, ↓reduceIte,reduceCtorEq,Nat.reduceEqDiff,Nat.reduceAdd,Nat.reduceMul,Nat.reduceSub,Nat.reduceLeDiff,Nat.reduceBEq,Int.reduceToNat,Int.reduceLE,Int.reduceLT,Int.reduceEq,Int.reduceNe,di]
  have hL2:L.length≤B * 4:=Nat.le_trans hL (Nat.mul_le_mul_left _ (by omega))
  repeat (refine And.intro (by omega) ?_)
  rw [wrap64 (by omega) (by omega)]
  have hL3:L.length+M.length≤B * (i+1):=by rw [Nat.mul_succ]; omega
  have e2:L.map snI ++ M.map snI=(L ++ M).map snI:=List.map_append.symm
  refine ih (i+1,L ++ M) _ _ (by dsimp only; omega) ⟨by dsimp only; omega,by rw [List.length_append]; exact hL3,by rw [List.append_assoc]; exact he⟩ ?_
  dsimp only
  rw [← e2]
  simp only [ruI,ssI,sbI,spI,swI,scI,stI,srI,saI,snI, ↓reduceIte,reduceCtorEq,Nat.reduceEqDiff,Nat.reduceAdd,Nat.reduceMul,Nat.reduceSub,Nat.reduceLeDiff,Nat.reduceBEq,Int.reduceToNat,Int.reduceLE,Int.reduceLT,Int.reduceEq,Int.reduceNe,di]
  rfl
end Go.DI


/- Contracts: the shortest wait; the statement SurgeBounds. No condition. -/
import Derived.Test.YtaphhpphfffnfaaGreatDoorTwt
set_option linter.unusedSimpArgs false
set_option maxRecDepth 20000
namespace Go.DI
open Go.Proofs Go.RowKit Sg
def setW (p:Pl) (w:Int):Pl:=⟨p.load,p.ch,w,p.ticks⟩
theorem setW_ok {p:Pl} {w:Int} (hp:PlanOk p) (h : 1≤w∧w≤20):PlanOk (setW p w):=⟨hp.load,hp.len,hp.ch,h,hp.ticks⟩
def keepsW (r:Ru) (p:Pl) (v:Cv) (w:Int):Prop:=((boundP r (setW p w) (coverL v)).1=true∧v.lo≤(boundP r (setW p w) (coverL v)).2.1)∧(boundP r (setW p w) (coverL v)).2.2≤v.hi
instance (r:Ru) (p:Pl) (v:Cv) (w:Int):Decidable (keepsW r p v w):=inferInstanceAs (Decidable (_∧_))
def shortF (r:Ru) (p:Pl) (v:Cv):Nat→Int→Option Int
 | 0,_=>none
 | n+1,w=>if keepsW r p v w then some w else shortF r p v n (w+1)
def shortP (r:Ru) (p:Pl) (v:Cv):Option Int:=shortF r p v 20 1
theorem shortF_cons {r:Ru} {p:Pl} {v:Cv} {n:Nat} {w:Int}:shortF r p v (n+1) w=if keepsW r p v w then some w else shortF r p v n (w+1):=rfl
def optW:Option Int→Int | none=>0 | some w=>w
def optE:Option Int→Int | none=>12 | some _=>0
def waitE (r:Ru) (p:Pl) (v:Cv):Int:=fstE (planEr r p).2 (coverE v)
theorem s_ShortestWait {r:Ru} {p:Pl} {v:Cv} (hl:p.ch.length≤1000000000):Contract Tryz.prog 182 [ruI r,spI p,scI v]
  (if waitE r p v=0 then .tup [.int .i64 (optW (shortP r p v)),.int .i64 (optE (shortP r p v))] else .tup [.int .i64 0,.int .i64 (waitE r p v)]):=by
 refine contract_run Tryz.func182 k182 rfl ?_
 simp only [body182,b182,res182,b182k0,b182k1,b182k2,b182k3,ruI,ssI,sbI,spI,swI,scI,stI,srI,saI,snI, ↓reduceIte,reduceCtorEq,Nat.reduceEqDiff,Nat.reduceAdd,Nat.reduceMul,Nat.reduceSub,Nat.reduceLeDiff,Nat.reduceBEq,Int.reduceToNat,Int.reduceLE,Int.reduceLT,Int.reduceEq,Int.reduceNe,di]
 refine calls_of (s_open hl) ?_; simp only [ruI,ssI,sbI,spI,swI,scI,stI,srI,saI,snI,res182,b182k0,b182k1,b182k2,b182k3, ↓reduceIte,reduceCtorEq,Nat.reduceEqDiff,Nat.reduceAdd,Nat.reduceMul,Nat.reduceSub,Nat.reduceLeDiff,Nat.reduceBEq,Int.reduceToNat,Int.reduceLE,Int.reduceLT,Int.reduceEq,Int.reduceNe,di]
 refine calls_of (s_coverErr (v:=v)) ?_; simp only [ruI,ssI,sbI,spI,swI,scI,stI,srI,saI,snI,res182,b182k0,b182k1,b182k2,b182k3, ↓reduceIte,reduceCtorEq,Nat.reduceEqDiff,Nat.reduceAdd,Nat.reduceMul,Nat.reduceSub,Nat.reduceLeDiff,Nat.reduceBEq,Int.reduceToNat,Int.reduceLE,Int.reduceLT,Int.reduceEq,Int.reduceNe,di]
 refine calls_of (s_first (l:=[(planEr r p).2,coverE v]) (by simp)) ?_; simp only [ruI,ssI,sbI,spI,swI,scI,stI,srI,saI,snI,res182,b182k0,b182k1,b182k2,b182k3, ↓reduceIte,reduceCtorEq,Nat.reduceEqDiff,Nat.reduceAdd,Nat.reduceMul,Nat.reduceSub,Nat.reduceLeDiff,Nat.reduceBEq,Int.reduceToNat,Int.reduceLE,Int.reduceLT,Int.reduceEq,Int.reduceNe,di]
 rw [firstNZ_two]
 rw [show fstE (planEr r p).2 (coverE v)=waitE r p v from rfl]
 by_cases h:waitE r p v=0
 case neg=>simp only [h,ruI,ssI,sbI,spI,swI,scI,stI,srI,saI,snI, ↓reduceIte,reduceCtorEq,Nat.reduceEqDiff,Nat.reduceAdd,Nat.reduceMul,Nat.reduceSub,Nat.reduceLeDiff,Nat.reduceBEq,Int.reduceToNat,Int.reduceLE,Int.reduceLT,Int.reduceEq,Int.reduceNe,di]
 simp only [h,ruI,ssI,sbI,spI,swI,scI,stI,srI,saI,snI, ↓reduceIte,reduceCtorEq,Nat.reduceEqDiff,Nat.reduceAdd,Nat.reduceMul,Nat.reduceSub,Nat.reduceLeDiff,Nat.reduceBEq,Int.reduceToNat,Int.reduceLE,Int.reduceLT,Int.reduceEq,Int.reduceNe,di]
 unfold waitE at h
 rw [fstE_zero,planEr_zero] at h
 obtain ⟨⟨hr,hp⟩,hv⟩:=h
 obtain ⟨hcl,hcb⟩:=cover_ok hv
 refine calls_of (s_cover hv) ?_; simp only [ruI,ssI,sbI,spI,swI,scI,stI,srI,saI,snI,res182,b182k0,b182k1,b182k2,b182k3, ↓reduceIte,reduceCtorEq,Nat.reduceEqDiff,Nat.reduceAdd,Nat.reduceMul,Nat.reduceSub,Nat.reduceLeDiff,Nat.reduceBEq,Int.reduceToNat,Int.reduceLE,Int.reduceLT,Int.reduceEq,Int.reduceNe,di]
 refine loop_keep (α:=Int × Int) rfl (fun q=>(21 - q.1).toNat) (fun q=>(1≤q.1∧q.1≤21)∧shortP r p v=shortF r p v (21 - q.1).toNat q.1)
  (fun q=>[(5,.ref 5 0),(8,.ref 8 0),(10,.imm (.slc 4 ((coverL v).map sbI))),(11,.imm (.int .i64 q.1))])
  (fun q=>[(5,.box (scCells v)),(8,.box [.imm (.int .i64 r.I),.imm (.int .i64 r.A),.imm (.int .i64 r.lo),.imm (.int .i64 r.hi),.imm (.int .i64 r.T),.imm (.int .i64 p.load),.imm (snI p.ch),.imm (.int .i64 q.2),.imm (.int .i64 p.ticks)])]) (1,p.wait) ⟨⟨by omega,by omega⟩,rfl⟩ (by simp only [scCells,ruI,ssI,sbI,spI,swI,scI,stI,srI,saI,snI, ↓reduceIte,reduceCtorEq,Nat.reduceEqDiff,Nat.reduceAdd,Nat.reduceMul,Nat.reduceSub,Nat.reduceLeDiff,Nat.reduceBEq,Int.reduceToNat,Int.reduceLE,Int.reduceLT,Int.reduceEq,Int.reduceNe,di] <;> rfl) ?_
 rintro ⟨w,w0⟩ ⟨hw,he⟩ ih
 dsimp only at hw he ⊢
 simp only [res182,b182k0,b182k1,b182k2,b182k3,scCells,ruI,ssI,sbI,spI,swI,scI,stI,srI,saI,snI, ↓reduceIte,reduceCtorEq,Nat.reduceEqDiff,Nat.reduceAdd,Nat.reduceMul,Nat.reduceSub,Nat.reduceLeDiff,Nat.reduceBEq,Int.reduceToNat,Int.reduceLE,Int.reduceLT,Int.reduceEq,Int.reduceNe,di]
 split
 case isFalse h1 =>
  rw [show (21 - w).toNat=0 by omega] at he
  simp only [shortF] at he
  rw [he]
  rfl
 rename_i h1
 rw [show (21 - w).toNat=(21 - (w+1)).toNat+1 by omega,shortF_cons] at he
 have hb:=s_bound (r:=r) (p:=setW p w) (bs:=coverL v) hr (setW_ok hp ⟨hw.1,h1⟩) (by omega) hcb
 simp only [setW] at hb
 refine calls_of hb ?_; simp only [ruI,ssI,sbI,spI,swI,scI,stI,srI,saI,snI,res182,b182k0,b182k1,b182k2,b182k3, ↓reduceIte,reduceCtorEq,Nat.reduceEqDiff,Nat.reduceAdd,Nat.reduceMul,Nat.reduceSub,Nat.reduceLeDiff,Nat.reduceBEq,Int.reduceToNat,Int.reduceLE,Int.reduceLT,Int.reduceEq,Int.reduceNe,di]
 have hk:keepsW r p v w=(((boundP r ⟨p.load,p.ch,w,p.ticks⟩ (coverL v)).1=true∧v.lo≤(boundP r ⟨p.load,p.ch,w,p.ticks⟩ (coverL v)).2.1)∧(boundP r ⟨p.load,p.ch,w,p.ticks⟩ (coverL v)).2.2≤v.hi):=rfl
 generalize boundP r ⟨p.load,p.ch,w,p.ticks⟩ (coverL v)=B at hk
 obtain ⟨Bf,B1,B2⟩:=B
 dsimp only at hk ⊢
 cases Bf
 ·rw [if_neg (by rw [hk]; simp)] at he
  simp only [ruI,ssI,sbI,spI,swI,scI,stI,srI,saI,snI, ↓reduceIte,reduceCtorEq,Nat.reduceEqDiff,Nat.reduceAdd,Nat.reduceMul,Nat.reduceSub,Nat.reduceLeDiff,Nat.reduceBEq,Int.reduceToNat,Int.reduceLE,Int.reduceLT,Int.reduceEq,Int.reduceNe,di]
  simp only [show IntKind.wrap .i64 (w+1)=w+1 from wrap64 (by omega) (by omega)]
  refine ih (w+1,w) _ _ (by dsimp only; omega) ⟨by dsimp only; omega,he⟩ (by simp only [scCells,ruI,ssI,sbI,spI,swI,scI,stI,srI,saI,snI, ↓reduceIte,reduceCtorEq,Nat.reduceEqDiff,Nat.reduceAdd,Nat.reduceMul,Nat.reduceSub,Nat.reduceLeDiff,Nat.reduceBEq,Int.reduceToNat,Int.reduceLE,Int.reduceLT,Int.reduceEq,Int.reduceNe,di] <;> rfl)
 ·simp only [ruI,ssI,sbI,spI,swI,scI,stI,srI,saI,snI, ↓reduceIte,reduceCtorEq,Nat.reduceEqDiff,Nat.reduceAdd,Nat.reduceMul,Nat.reduceSub,Nat.reduceLeDiff,Nat.reduceBEq,Int.reduceToNat,Int.reduceLE,Int.reduceLT,Int.reduceEq,Int.reduceNe,di]
  by_cases k1:v.lo≤B1
  case neg =>
   rw [if_neg (by rw [hk]; simp [k1])] at he
   simp only [k1,ruI,ssI,sbI,spI,swI,scI,stI,srI,saI,snI, ↓reduceIte,reduceCtorEq,Nat.reduceEqDiff,Nat.reduceAdd,Nat.reduceMul,Nat.reduceSub,Nat.reduceLeDiff,Nat.reduceBEq,Int.reduceToNat,Int.reduceLE,Int.reduceLT,Int.reduceEq,Int.reduceNe,di]
   simp only [show IntKind.wrap .i64 (w+1)=w+1 from wrap64 (by omega) (by omega)]
   refine ih (w+1,w) _ _ (by dsimp only; omega) ⟨by dsimp only; omega,he⟩ (by simp only [scCells,ruI,ssI,sbI,spI,swI,scI,stI,srI,saI,snI, ↓reduceIte,reduceCtorEq,Nat.reduceEqDiff,Nat.reduceAdd,Nat.reduceMul,Nat.reduceSub,Nat.reduceLeDiff,Nat.reduceBEq,Int.reduceToNat,Int.reduceLE,Int.reduceLT,Int.reduceEq,Int.reduceNe,di] <;> rfl)
  simp only [k1,ruI,ssI,sbI,spI,swI,scI,stI,srI,saI,snI, ↓reduceIte,reduceCtorEq,Nat.reduceEqDiff,Nat.reduceAdd,Nat.reduceMul,Nat.reduceSub,Nat.reduceLeDiff,Nat.reduceBEq,Int.reduceToNat,Int.reduceLE,Int.reduceLT,Int.reduceEq,Int.reduceNe,di]
  by_cases k2:B2≤v.hi
  case neg =>
   rw [if_neg (by rw [hk]; simp [k2])] at he
   simp only [k2,ruI,ssI,sbI,spI,swI,scI,stI,srI,saI,snI, ↓reduceIte,reduceCtorEq,Nat.reduceEqDiff,Nat.reduceAdd,Nat.reduceMul,Nat.reduceSub,Nat.reduceLeDiff,Nat.reduceBEq,Int.reduceToNat,Int.reduceLE,Int.reduceLT,Int.reduceEq,Int.reduceNe,di]
   simp only [show IntKind.wrap .i64 (w+1)=w+1 from wrap64 (by omega) (by omega)]
   refine ih (w+1,w) _ _ (by dsimp only; omega) ⟨by dsimp only; omega,he⟩ (by simp only [scCells,ruI,ssI,sbI,spI,swI,scI,stI,srI,saI,snI, ↓reduceIte,reduceCtorEq,Nat.reduceEqDiff,Nat.reduceAdd,Nat.reduceMul,Nat.reduceSub,Nat.reduceLeDiff,Nat.reduceBEq,Int.reduceToNat,Int.reduceLE,Int.reduceLT,Int.reduceEq,Int.reduceNe,di] <;> rfl)
  rw [if_pos (by rw [hk]; exact ⟨⟨rfl,k1⟩,k2⟩)] at he
  simp only [k2,ruI,ssI,sbI,spI,swI,scI,stI,srI,saI,snI, ↓reduceIte,reduceCtorEq,Nat.reduceEqDiff,Nat.reduceAdd,Nat.reduceMul,Nat.reduceSub,Nat.reduceLeDiff,Nat.reduceBEq,Int.reduceToNat,Int.reduceLE,Int.reduceLT,Int.reduceEq,Int.reduceNe,di]
  rw [he]
  rfl
theorem bfold_true:∀ {l:List Bx} {y:Bool × Int × Int},y.1=true→(l.foldl bStp y).1=true
 | [],_,h=>h
 | b :: l,y,_=>bfold_true (l:=l) (y:=bStp y b) rfl
end Go.DI


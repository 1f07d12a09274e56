/- Contracts: the reference's plans, orders and loads. No condition. -/
import Derived.Test.YtaphhpphfffnfaaGreatDoorTwi
set_option linter.unusedSimpArgs false
namespace Go.DI
open Go.Proofs Go.RowKit Sg
theorem r_CheckPlan0 {p:Pl}:Contract Tryz.prog 156 [spI p] (.tup [.int .i64 (planE p).1,.int .i64 (planE p).2]):=by
 refine contract_run Tryz.func156 k156 rfl ?_
 simp only [body156,b156,res156,b156k0,b156k1,b156k2,b156k3,b156k4,b156k5,b156k6,ruI,ssI,sbI,spI,swI,scI,stI,srI,saI,snI, ↓reduceIte,reduceCtorEq,Nat.reduceEqDiff,Nat.reduceAdd,Nat.reduceMul,Nat.reduceSub,Nat.reduceLeDiff,Nat.reduceBEq,Int.reduceToNat,Int.reduceLE,Int.reduceLT,Int.reduceEq,Int.reduceNe,di]
 refine calls_of r_LoadErr ?_; simp only [ruI,ssI,sbI,spI,swI,scI,stI,srI,saI,snI,res156,b156k0,b156k1,b156k2,b156k3,b156k4,b156k5,b156k6, ↓reduceIte,reduceCtorEq,Nat.reduceEqDiff,Nat.reduceAdd,Nat.reduceMul,Nat.reduceSub,Nat.reduceLeDiff,Nat.reduceBEq,Int.reduceToNat,Int.reduceLE,Int.reduceLT,Int.reduceEq,Int.reduceNe,di]
 by_cases h1:loadErr p.load=0
 case neg =>
  have hp:planE p=(0,loadErr p.load):=by
   unfold planE fstE
   rw [if_neg h1,if_neg h1]
  rw [hp]
  simp only [h1,ruI,ssI,sbI,spI,swI,scI,stI,srI,saI,snI, ↓reduceIte,reduceCtorEq,Nat.reduceEqDiff,Nat.reduceAdd,Nat.reduceMul,Nat.reduceSub,Nat.reduceLeDiff,Nat.reduceBEq,Int.reduceToNat,Int.reduceLE,Int.reduceLT,Int.reduceEq,Int.reduceNe,di]
 simp only [h1,ruI,ssI,sbI,spI,swI,scI,stI,srI,saI,snI, ↓reduceIte,reduceCtorEq,Nat.reduceEqDiff,Nat.reduceAdd,Nat.reduceMul,Nat.reduceSub,Nat.reduceLeDiff,Nat.reduceBEq,Int.reduceToNat,Int.reduceLE,Int.reduceLT,Int.reduceEq,Int.reduceNe,di]
 by_cases h2:p.ch.length≤4
 case neg =>
  have hp:planE p=(0,8):=by
   have:lenE p.ch.length=8:=if_neg h2
   unfold planE fstE
   rw [if_pos h1,this,if_neg (by decide)]
  rw [hp,if_pos (by omega)]
 rw [if_neg (by omega)]
 have h0:fstE (loadErr p.load) (lenE p.ch.length)=0:=by rw [fstE_zero,lenE_zero]; exact ⟨h1,h2⟩
 refine loop_keep (α:=Nat) rfl (fun i=>p.ch.length - i) (fun i=>i≤p.ch.length∧scanC p.ch 0=scanC (p.ch.drop i) i)
  (fun i=>[(1,.ref 1 0),(5,.imm (.int .i64 i))]) (fun _=>[(1,.box [.imm (.int .i64 p.load),.imm (snI p.ch),.imm (.int .i64 p.wait),.imm (.int .i64 p.ticks)])]) 0 ⟨Nat.zero_le _,rfl⟩ (by simp only [ruI,ssI,sbI,spI,swI,scI,stI,srI,saI,snI, ↓reduceIte,reduceCtorEq,Nat.reduceEqDiff,Nat.reduceAdd,Nat.reduceMul,Nat.reduceSub,Nat.reduceLeDiff,Nat.reduceBEq,Int.reduceToNat,Int.reduceLE,Int.reduceLT,Int.reduceEq,Int.reduceNe,di] <;> rfl) ?_
 intro i ⟨hi,he⟩ ih
 simp only [res156,b156k0,b156k1,b156k2,b156k3,b156k4,b156k5,b156k6,ruI,ssI,sbI,spI,swI,scI,stI,srI,saI,snI, ↓reduceIte,reduceCtorEq,Nat.reduceEqDiff,Nat.reduceAdd,Nat.reduceMul,Nat.reduceSub,Nat.reduceLeDiff,Nat.reduceBEq,Int.reduceToNat,Int.reduceLE,Int.reduceLT,Int.reduceEq,Int.reduceNe,di]
 split
 ·rename_i h
  have hlt:i<p.ch.length:=by omega
  rw [getD_drop hlt] at he
  obtain ⟨x,hxe⟩ : ∃ x,p.ch.getD i 0=x:=⟨_,rfl⟩
  simp only [hxe] at he ⊢
  rw [scanC_cons] at he
  repeat (refine And.intro (by omega) ?_)
  refine calls_of c_Wi ?_; simp only [ruI,ssI,sbI,spI,swI,scI,stI,srI,saI,snI,res156,b156k0,b156k1,b156k2,b156k3,b156k4,b156k5,b156k6, ↓reduceIte,reduceCtorEq,Nat.reduceEqDiff,Nat.reduceAdd,Nat.reduceMul,Nat.reduceSub,Nat.reduceLeDiff,Nat.reduceBEq,Int.reduceToNat,Int.reduceLE,Int.reduceLT,Int.reduceEq,Int.reduceNe,di]
  by_cases h3:Wi x (-1000) 1000
  case neg =>
   have hc:changeErr x=2:=by unfold changeErr fstE; rw [if_neg h3]; rfl
   rw [hc,if_neg (by decide)] at he
   have hp:planE p=((i:Int),2):=by unfold planE; rw [if_pos h0,he]
   rw [hp]
   simp only [h3,ruI,ssI,sbI,spI,swI,scI,stI,srI,saI,snI, ↓reduceIte,reduceCtorEq,Nat.reduceEqDiff,Nat.reduceAdd,Nat.reduceMul,Nat.reduceSub,Nat.reduceLeDiff,Nat.reduceBEq,Int.reduceToNat,Int.reduceLE,Int.reduceLT,Int.reduceEq,Int.reduceNe,di]
  simp only [h3,ruI,ssI,sbI,spI,swI,scI,stI,srI,saI,snI, ↓reduceIte,reduceCtorEq,Nat.reduceEqDiff,Nat.reduceAdd,Nat.reduceMul,Nat.reduceSub,Nat.reduceLeDiff,Nat.reduceBEq,Int.reduceToNat,Int.reduceLE,Int.reduceLT,Int.reduceEq,Int.reduceNe,di]
  repeat (refine And.intro (by omega) ?_)
  simp only [hxe]
  by_cases h4:x=0
  ·have hc:changeErr x=11:=by unfold changeErr fstE; rw [if_pos h3,if_pos rfl,if_neg (by simp [h4])]
   rw [hc,if_neg (by decide)] at he
   have hp:planE p=((i:Int),11):=by unfold planE; rw [if_pos h0,he]
   rw [hp]
   simp only [h4,ruI,ssI,sbI,spI,swI,scI,stI,srI,saI,snI, ↓reduceIte,reduceCtorEq,Nat.reduceEqDiff,Nat.reduceAdd,Nat.reduceMul,Nat.reduceSub,Nat.reduceLeDiff,Nat.reduceBEq,Int.reduceToNat,Int.reduceLE,Int.reduceLT,Int.reduceEq,Int.reduceNe,di]
  ·have hc:changeErr x=0:=by unfold changeErr fstE; rw [if_pos h3,if_pos rfl,if_pos (by simp [h4])]
   rw [hc,if_pos rfl] at he
   simp only [h4,ruI,ssI,sbI,spI,swI,scI,stI,srI,saI,snI, ↓reduceIte,reduceCtorEq,Nat.reduceEqDiff,Nat.reduceAdd,Nat.reduceMul,Nat.reduceSub,Nat.reduceLeDiff,Nat.reduceBEq,Int.reduceToNat,Int.reduceLE,Int.reduceLT,Int.reduceEq,Int.reduceNe,di]
   rw [wrap64 (by omega) (by omega)]
   refine ih (i+1) _ _ (by omega) ⟨by omega,he⟩ (by simp only [ruI,ssI,sbI,spI,swI,scI,stI,srI,saI,snI, ↓reduceIte,reduceCtorEq,Nat.reduceEqDiff,Nat.reduceAdd,Nat.reduceMul,Nat.reduceSub,Nat.reduceLeDiff,Nat.reduceBEq,Int.reduceToNat,Int.reduceLE,Int.reduceLT,Int.reduceEq,Int.reduceNe,di] <;> rfl)
 ·rename_i h
  have:i=p.ch.length:=by omega
  subst this
  simp only [List.drop_length,scanC] at he
  have hp:planE p=(0,if Wi p.wait 1 20∧Wi p.ticks 1 200 then 0 else 2):=by unfold planE; rw [if_pos h0,he]
  rw [hp]
  refine calls_of c_Wi ?_; simp only [ruI,ssI,sbI,spI,swI,scI,stI,srI,saI,snI,res156,b156k0,b156k1,b156k2,b156k3,b156k4,b156k5,b156k6, ↓reduceIte,reduceCtorEq,Nat.reduceEqDiff,Nat.reduceAdd,Nat.reduceMul,Nat.reduceSub,Nat.reduceLeDiff,Nat.reduceBEq,Int.reduceToNat,Int.reduceLE,Int.reduceLT,Int.reduceEq,Int.reduceNe,di]
  by_cases h5:Wi p.wait 1 20
  case neg=>simp only [h5,ruI,ssI,sbI,spI,swI,scI,stI,srI,saI,snI, ↓reduceIte,reduceCtorEq,Nat.reduceEqDiff,Nat.reduceAdd,Nat.reduceMul,Nat.reduceSub,Nat.reduceLeDiff,Nat.reduceBEq,Int.reduceToNat,Int.reduceLE,Int.reduceLT,Int.reduceEq,Int.reduceNe,di]; simp
  simp only [h5,ruI,ssI,sbI,spI,swI,scI,stI,srI,saI,snI, ↓reduceIte,reduceCtorEq,Nat.reduceEqDiff,Nat.reduceAdd,Nat.reduceMul,Nat.reduceSub,Nat.reduceLeDiff,Nat.reduceBEq,Int.reduceToNat,Int.reduceLE,Int.reduceLT,Int.reduceEq,Int.reduceNe,di]
  refine calls_of c_Wi ?_; simp only [ruI,ssI,sbI,spI,swI,scI,stI,srI,saI,snI,res156,b156k0,b156k1,b156k2,b156k3,b156k4,b156k5,b156k6, ↓reduceIte,reduceCtorEq,Nat.reduceEqDiff,Nat.reduceAdd,Nat.reduceMul,Nat.reduceSub,Nat.reduceLeDiff,Nat.reduceBEq,Int.reduceToNat,Int.reduceLE,Int.reduceLT,Int.reduceEq,Int.reduceNe,di]
  by_cases h6:Wi p.ticks 1 200
  case neg=>simp only [h6,ruI,ssI,sbI,spI,swI,scI,stI,srI,saI,snI, ↓reduceIte,reduceCtorEq,Nat.reduceEqDiff,Nat.reduceAdd,Nat.reduceMul,Nat.reduceSub,Nat.reduceLeDiff,Nat.reduceBEq,Int.reduceToNat,Int.reduceLE,Int.reduceLT,Int.reduceEq,Int.reduceNe,di]
  simp only [h6,ruI,ssI,sbI,spI,swI,scI,stI,srI,saI,snI, ↓reduceIte,reduceCtorEq,Nat.reduceEqDiff,Nat.reduceAdd,Nat.reduceMul,Nat.reduceSub,Nat.reduceLeDiff,Nat.reduceBEq,Int.reduceToNat,Int.reduceLE,Int.reduceLT,Int.reduceEq,Int.reduceNe,di]
theorem r_PlanErr0 {r:Ru} {p:Pl}:Contract Tryz.prog 68 [ruI r,spI p] (.int .i64 (planEr r p).2):=by
 refine contract_run Tryz.func68 k68 rfl ?_
 simp only [body68,b68,res68,b68k0,ruI,ssI,sbI,spI,swI,scI,stI,srI,saI,snI, ↓reduceIte,reduceCtorEq,Nat.reduceEqDiff,Nat.reduceAdd,Nat.reduceMul,Nat.reduceSub,Nat.reduceLeDiff,Nat.reduceBEq,Int.reduceToNat,Int.reduceLE,Int.reduceLT,Int.reduceEq,Int.reduceNe,di]
 refine calls_of r_RulesErr ?_; simp only [ruI,ssI,sbI,spI,swI,scI,stI,srI,saI,snI,res68,b68k0, ↓reduceIte,reduceCtorEq,Nat.reduceEqDiff,Nat.reduceAdd,Nat.reduceMul,Nat.reduceSub,Nat.reduceLeDiff,Nat.reduceBEq,Int.reduceToNat,Int.reduceLE,Int.reduceLT,Int.reduceEq,Int.reduceNe,di]
 unfold planEr
 by_cases h:rulesErr r=0
 ·simp only [h,ruI,ssI,sbI,spI,swI,scI,stI,srI,saI,snI, ↓reduceIte,reduceCtorEq,Nat.reduceEqDiff,Nat.reduceAdd,Nat.reduceMul,Nat.reduceSub,Nat.reduceLeDiff,Nat.reduceBEq,Int.reduceToNat,Int.reduceLE,Int.reduceLT,Int.reduceEq,Int.reduceNe,di]
  refine calls_of (r_CheckPlan0 (p:=p)) ?_; simp only [ruI,ssI,sbI,spI,swI,scI,stI,srI,saI,snI,res68,b68k0, ↓reduceIte,reduceCtorEq,Nat.reduceEqDiff,Nat.reduceAdd,Nat.reduceMul,Nat.reduceSub,Nat.reduceLeDiff,Nat.reduceBEq,Int.reduceToNat,Int.reduceLE,Int.reduceLT,Int.reduceEq,Int.reduceNe,di]
 ·simp only [h,ruI,ssI,sbI,spI,swI,scI,stI,srI,saI,snI, ↓reduceIte,reduceCtorEq,Nat.reduceEqDiff,Nat.reduceAdd,Nat.reduceMul,Nat.reduceSub,Nat.reduceLeDiff,Nat.reduceBEq,Int.reduceToNat,Int.reduceLE,Int.reduceLT,Int.reduceEq,Int.reduceNe,di]
theorem r_CopyPlan {p:Pl} (hl:p.ch.length≤1000000000):Contract Tryz.prog 73 [spI p] (spI p):=by
 refine contract_run Tryz.func73 k73 rfl ?_
 simp only [body73,b73,res73,ruI,ssI,sbI,spI,swI,scI,stI,srI,saI,snI, ↓reduceIte,reduceCtorEq,Nat.reduceEqDiff,Nat.reduceAdd,Nat.reduceMul,Nat.reduceSub,Nat.reduceLeDiff,Nat.reduceBEq,Int.reduceToNat,Int.reduceLE,Int.reduceLT,Int.reduceEq,Int.reduceNe,di]
 refine calls_of (c_CopyInts (a:=p.ch) (by omega)) ?_; simp only [ruI,ssI,sbI,spI,swI,scI,stI,srI,saI,snI,res73, ↓reduceIte,reduceCtorEq,Nat.reduceEqDiff,Nat.reduceAdd,Nat.reduceMul,Nat.reduceSub,Nat.reduceLeDiff,Nat.reduceBEq,Int.reduceToNat,Int.reduceLE,Int.reduceLT,Int.reduceEq,Int.reduceNe,di]
theorem r_Orders {p:Pl} (hp:PlanOk p):Contract Tryz.prog 183 [spI p] (.slc 1 ((ordersP p).map snI)):=by
 refine contract_run Tryz.func183 k183 rfl ?_
 simp only [body183,b183,res183,ruI,ssI,sbI,spI,swI,scI,stI,srI,saI,snI, ↓reduceIte,reduceCtorEq,Nat.reduceEqDiff,Nat.reduceAdd,Nat.reduceMul,Nat.reduceSub,Nat.reduceLeDiff,Nat.reduceBEq,Int.reduceToNat,Int.reduceLE,Int.reduceLT,Int.reduceEq,Int.reduceNe,di]
 have h:=r_orders hp p.ch.length [] (by simp) (by simp)
 rw [show permL p.ch p.load []=true from rfl,if_pos rfl] at h
 refine calls_of h ?_; simp only [ruI,ssI,sbI,spI,swI,scI,stI,srI,saI,snI,res183, ↓reduceIte,reduceCtorEq,Nat.reduceEqDiff,Nat.reduceAdd,Nat.reduceMul,Nat.reduceSub,Nat.reduceLeDiff,Nat.reduceBEq,Int.reduceToNat,Int.reduceLE,Int.reduceLT,Int.reduceEq,Int.reduceNe,di]
 rfl
def atF (p:Pl) (t:Int):List Int→Nat→Int→Int
 | [],_,load=>load
 | i :: r,j,load=>atF p t r (j+1) (if (j:Int) * p.wait≤t then load+nth p.ch i else load)
theorem atF_cons {p:Pl} {t i:Int} {r:List Int} {j:Nat} {load:Int}:atF p t (i :: r) j load=atF p t r (j+1) (if (j:Int) * p.wait≤t then load+nth p.ch i else load):=rfl
theorem atF_add {p:Pl} {t:Int}:∀ (r:List Int) (j:Nat) (a b:Int),atF p t r j (a+b)=a+atF p t r j b
 | [],_,_,_=>rfl
 | i :: r,j,a,b=>by
  unfold atF
  rw [← atF_add r (j+1)]
  congr 1
  split <;> omega
theorem atF_low {p:Pl} (hw : 1≤p.wait) {t:Int} (ht:t<0):∀ (r:List Int) (j:Nat) (a:Int),atF p t r j a=a
 | [],_,_=>rfl
 | i :: r,j,a=>by
  unfold atF
  have : 0≤(j:Int) * p.wait:=Int.mul_nonneg (by omega) (by omega)
  rw [if_neg (by omega),atF_low hw ht r (j+1)]
theorem atF_step {p:Pl} (hw : 1≤p.wait) {t:Nat}:∀ (r:List Int) (j:Nat) (a:Int),
  atF p t r j a=atF p ((t:Int) - 1) r j a+(if (t:Int) % p.wait=0∧(j:Int)≤(t:Int) / p.wait∧(t:Int) / p.wait<j+r.length then nth p.ch (r.getD ((t:Int) / p.wait - j).toNat 0) else 0)
 | [],j,a=>by
  unfold atF
  rw [if_neg (by simp only [List.length_nil]; omega)]
  omega
 | i :: r,j,a=>by
  have ih:=atF_step hw (t:=t) r (j+1) (if (j:Int) * p.wait≤t then a+nth p.ch i else a)
  have hdm:=Int.emod_add_mul_ediv (t:Int) p.wait
  have hm0:=Int.emod_nonneg (t:Int) (show p.wait ≠ 0 by omega)
  have hm1:=Int.emod_lt_of_pos (t:Int) (show 0<p.wait by omega)
  have hmul:p.wait * ((t:Int) / p.wait)=((t:Int) / p.wait) * p.wait:=Int.mul_comm _ _
  have hlen:((i :: r).length:Int)=r.length+1:=by simp
  generalize hq:(t:Int) / p.wait=q at ih hdm hmul ⊢
  show atF p t r (j+1) _=atF p ((t:Int) - 1) r (j+1) _+_
  rw [ih]
  by_cases hc:(t:Int) % p.wait=0∧q=j
  ·
   have hjt:(j:Int) * p.wait=t:=by rw [← hc.2,← hmul]; omega
   rw [if_pos (show (j:Int) * p.wait≤t by omega),if_neg (show ¬ (j:Int) * p.wait≤(t:Int) - 1 by omega)]
   rw [if_neg (by push_cast; omega),if_pos (by rw [hlen]; omega)]
   rw [show (q - (j:Int)).toNat=0 by omega]
   rw [show a+nth p.ch i=nth p.ch i+a by omega,atF_add]
   simp
   omega
  ·have hiff:((j:Int) * p.wait≤t)↔((j:Int) * p.wait≤(t:Int) - 1):=by
    constructor
    ·intro h
     by_cases e:(j:Int) * p.wait=t
     ·exfalso
      apply hc
      rw [← e] at hq hm0
      rw [Int.mul_ediv_cancel _ (by omega)] at hq
      refine ⟨?_,hq.symm⟩
      rw [← e]
      exact Int.mul_emod_left _ _
     ·omega
    ·omega
   rw [show (if (j:Int) * p.wait≤t then a+nth p.ch i else a)=if (j:Int) * p.wait≤(t:Int) - 1 then a+nth p.ch i else a by
    by_cases h:(j:Int) * p.wait≤t
    ·rw [if_pos h,if_pos (hiff.1 h)]
    ·rw [if_neg h,if_neg (fun k=>h (hiff.2 k))]]
   congr 1
   by_cases h2:(t:Int) % p.wait=0∧((j+1:Nat):Int)≤q∧q<((j+1:Nat):Int)+r.length
   ·rw [if_pos h2,if_pos (by rw [hlen]; push_cast at h2; omega)]
    rw [show (q - (j:Int)).toNat=(q - ((j+1:Nat):Int)).toNat+1 by push_cast at h2 ⊢; omega]
    simp
   ·rw [if_neg h2,if_neg (by rw [hlen]; push_cast at h2; omega)]
theorem loadsF_at {p:Pl} {o:List Int} (hw : 1≤p.wait):∀ (m t:Nat) (load:Int),load=atF p ((t:Int) - 1) o 0 p.load→loadsF p o m t load=(List.range m).map fun (i:Nat)=>atF p ((t+i:Nat):Int) o 0 p.load
 | 0,t,load,h=>rfl
 | m+1,t,load,h=>by
  have hs:=atF_step (p:=p) hw (t:=t) o 0 p.load
  rw [← h] at hs
  have e:(if (t:Int).tmod p.wait=0∧(t:Int).tdiv p.wait<o.length then load+nth p.ch (nth o ((t:Int).tdiv p.wait)) else load)=atF p (t:Int) o 0 p.load:=by
   rw [hs,Int.tmod_eq_emod_of_nonneg (by omega),Int.tdiv_eq_ediv_of_nonneg (by omega)]
   have hq : 0≤(t:Int) / p.wait:=Int.ediv_nonneg (by omega) (by omega)
   by_cases hc:(t:Int) % p.wait=0∧(t:Int) / p.wait<o.length
   ·rw [if_pos hc,if_pos ⟨hc.1,by omega,by omega⟩]
    congr 2
    unfold nth
    congr 1
    omega
   ·rw [if_neg hc,if_neg (by intro k; apply hc; exact ⟨k.1,by omega⟩)]
    omega
  unfold loadsF
  rw [e,List.range_succ_eq_map,List.map_cons,List.map_map]
  congr 1
  have ih:=loadsF_at (p:=p) (o:=o) hw m (t+1) (atF p (t:Int) o 0 p.load) (by congr 1; push_cast; omega)
  rw [show ((t:Int)+1)=((t+1:Nat):Int) by push_cast; rfl,ih]
  apply List.map_congr_left
  intro i _
  show atF p ((t+1+i:Nat):Int) o 0 p.load=atF p ((t+(i+1):Nat):Int) o 0 p.load
  congr 2
  omega
theorem loadsP_at {p:Pl} {o:List Int} (hw : 1≤p.wait):loadsP p o=(List.range p.ticks.toNat).map fun (i:Nat)=>atF p (i:Int) o 0 p.load:=by
 unfold loadsP
 have:=loadsF_at (p:=p) (o:=o) hw p.ticks.toNat 0 p.load (by rw [atF_low hw (by omega)])
 rw [show (0:Int)=((0:Nat):Int) from rfl,this]
 apply List.map_congr_left
 intro i _
 congr 2
 omega
theorem r_Loads {p:Pl} {o:List Int} (hp:PlanOk p) (ho:Idx p o) (hol:o.length≤1000):Contract Tryz.prog 184 [spI p,snI o] (snI (loadsP p o)):=by
 have hpl:=hp.load
 have hw:=hp.wait
 have ht:=hp.ticks
 rw [loadsP_at hw.1]
 refine contract_run Tryz.func184 k184 rfl ?_
 simp only [body184,b184,res184,b184k0,b184k1,b184k2,b184k3,b184k4,b184k5,ruI,ssI,sbI,spI,swI,scI,stI,srI,saI,snI, ↓reduceIte,reduceCtorEq,Nat.reduceEqDiff,Nat.reduceAdd,Nat.reduceMul,Nat.reduceSub,Nat.reduceLeDiff,Nat.reduceBEq,Int.reduceToNat,Int.reduceLE,Int.reduceLT,Int.reduceEq,Int.reduceNe,di]
 refine loop_keep (α:=Nat) rfl (fun i=>p.ticks.toNat - i) (fun i=>i≤p.ticks.toNat)
  (fun i=>[(1,.imm (snI o)),(2,.ref 2 0),(5,.own 5),(6,.imm (.int .i64 i))])
  (fun i=>[(2,.box [.imm (.int .i64 p.load),.imm (snI p.ch),.imm (.int .i64 p.wait),.imm (.int .i64 p.ticks)]),(5,.tok 1 (((List.range i).map fun (i:Nat)=>atF p (i:Int) o 0 p.load).map (IV.int .i64)))]) 0 (Nat.zero_le _) (by simp only [ruI,ssI,sbI,spI,swI,scI,stI,srI,saI,snI, ↓reduceIte,reduceCtorEq,Nat.reduceEqDiff,Nat.reduceAdd,Nat.reduceMul,Nat.reduceSub,Nat.reduceLeDiff,Nat.reduceBEq,Int.reduceToNat,Int.reduceLE,Int.reduceLT,Int.reduceEq,Int.reduceNe,di] <;> rfl) ?_
 intro i hi ih
 simp only [res184,b184k0,b184k1,b184k2,b184k3,b184k4,b184k5,ruI,ssI,sbI,spI,swI,scI,stI,srI,saI,snI, ↓reduceIte,reduceCtorEq,Nat.reduceEqDiff,Nat.reduceAdd,Nat.reduceMul,Nat.reduceSub,Nat.reduceLeDiff,Nat.reduceBEq,Int.reduceToNat,Int.reduceLE,Int.reduceLT,Int.reduceEq,Int.reduceNe,di]
 split
 case isFalse h =>
  have:i=p.ticks.toNat:=by omega
  subst this
  rfl
 rename_i h
 refine loop_keep (α:=Nat × Int) rfl (fun q=>o.length - q.1) (fun q=>q.1≤o.length∧(-1000 * (q.1:Int)≤q.2∧q.2≤1000+1000 * (q.1:Int))∧atF p (i:Int) (o.drop q.1) q.1 q.2=atF p (i:Int) o 0 p.load)
  (fun q=>[(1,.imm (snI o)),(2,.ref 2 0),(5,.own 5),(6,.imm (.int .i64 i)),(7,.imm (.int .i64 q.2)),(8,.imm (.int .i64 q.1))])
  (fun _=>[(2,.box [.imm (.int .i64 p.load),.imm (snI p.ch),.imm (.int .i64 p.wait),.imm (.int .i64 p.ticks)]),(5,.tok 1 (((List.range i).map fun (i:Nat)=>atF p (i:Int) o 0 p.load).map (IV.int .i64)))]) (0,p.load) ⟨Nat.zero_le _,by dsimp only; omega,rfl⟩ (by simp only [ruI,ssI,sbI,spI,swI,scI,stI,srI,saI,snI, ↓reduceIte,reduceCtorEq,Nat.reduceEqDiff,Nat.reduceAdd,Nat.reduceMul,Nat.reduceSub,Nat.reduceLeDiff,Nat.reduceBEq,Int.reduceToNat,Int.reduceLE,Int.reduceLT,Int.reduceEq,Int.reduceNe,di] <;> rfl) ?_
 rintro ⟨j,load⟩ ⟨hj,hb,he⟩ ih2
 dsimp only at hj hb he ⊢
 simp only [res184,b184k0,b184k1,b184k2,b184k3,b184k4,b184k5,ruI,ssI,sbI,spI,swI,scI,stI,srI,saI,snI, ↓reduceIte,reduceCtorEq,Nat.reduceEqDiff,Nat.reduceAdd,Nat.reduceMul,Nat.reduceSub,Nat.reduceLeDiff,Nat.reduceBEq,Int.reduceToNat,Int.reduceLE,Int.reduceLT,Int.reduceEq,Int.reduceNe,di]
 split
 ·rename_i h2
  have hlt:j<o.length:=by omega
  have hx:=ho.2 _ (getD_mem hlt)
  rw [getD_drop hlt,atF_cons] at he
  generalize o.getD j 0=x at hx he
  have hn:=nth_bd hp x
  have hm : 0≤(j:Int) * p.wait:=Int.mul_nonneg (by omega) (by omega)
  have hm2:(j:Int) * p.wait≤1000 * 20:=Int.mul_le_mul (by omega) (by omega) (by omega) (by omega)
  rw [show IntKind.wrap .i64 ((j:Int) * p.wait)=(j:Int) * p.wait from wrap64 (by omega) (by omega)]
  by_cases hc:(j:Int) * p.wait≤(i:Int)
  ·rw [if_pos hc] at he
   simp only [hc,ruI,ssI,sbI,spI,swI,scI,stI,srI,saI,snI, ↓reduceIte,reduceCtorEq,Nat.reduceEqDiff,Nat.reduceAdd,Nat.reduceMul,Nat.reduceSub,Nat.reduceLeDiff,Nat.reduceBEq,Int.reduceToNat,Int.reduceLE,Int.reduceLT,Int.reduceEq,Int.reduceNe,di]
   repeat (refine And.intro (by omega) ?_)
   rw [show p.ch.getD x.toNat 0=nth p.ch x from rfl]
   rw [show IntKind.wrap .i64 (load+nth p.ch x)=load+nth p.ch x from wrap64 (by omega) (by omega)]
   rw [wrap64 (by omega) (by omega)]
   refine ih2 (j+1,load+nth p.ch x) _ _ (by dsimp only; omega) ⟨by dsimp only; omega,by dsimp only; omega,he⟩ (by simp only [ruI,ssI,sbI,spI,swI,scI,stI,srI,saI,snI, ↓reduceIte,reduceCtorEq,Nat.reduceEqDiff,Nat.reduceAdd,Nat.reduceMul,Nat.reduceSub,Nat.reduceLeDiff,Nat.reduceBEq,Int.reduceToNat,Int.reduceLE,Int.reduceLT,Int.reduceEq,Int.reduceNe,di] <;> rfl)
  ·rw [if_neg hc] at he
   simp only [hc,ruI,ssI,sbI,spI,swI,scI,stI,srI,saI,snI, ↓reduceIte,reduceCtorEq,Nat.reduceEqDiff,Nat.reduceAdd,Nat.reduceMul,Nat.reduceSub,Nat.reduceLeDiff,Nat.reduceBEq,Int.reduceToNat,Int.reduceLE,Int.reduceLT,Int.reduceEq,Int.reduceNe,di]
   rw [wrap64 (by omega) (by omega)]
   refine ih2 (j+1,load) _ _ (by dsimp only; omega) ⟨by dsimp only; omega,by dsimp only; omega,he⟩ (by simp only [ruI,ssI,sbI,spI,swI,scI,stI,srI,saI,snI, ↓reduceIte,reduceCtorEq,Nat.reduceEqDiff,Nat.reduceAdd,Nat.reduceMul,Nat.reduceSub,Nat.reduceLeDiff,Nat.reduceBEq,Int.reduceToNat,Int.reduceLE,Int.reduceLT,Int.reduceEq,Int.reduceNe,di] <;> rfl)
 ·rename_i h2
  have:j=o.length:=by omega
  subst this
  rw [List.drop_length] at he
  simp only [atF] at he
  rw [List.length_range]
  repeat (refine And.intro (by omega) ?_)
  rw [wrap64 (by omega) (by omega),he]
  refine ih (i+1) _ _ (by omega) (by omega) ?_
  rw [List.range_succ,List.map_append,List.map_append]
  simp only [ruI,ssI,sbI,spI,swI,scI,stI,srI,saI,snI, ↓reduceIte,reduceCtorEq,Nat.reduceEqDiff,Nat.reduceAdd,Nat.reduceMul,Nat.reduceSub,Nat.reduceLeDiff,Nat.reduceBEq,Int.reduceToNat,Int.reduceLE,Int.reduceLT,Int.reduceEq,Int.reduceNe,di]
  rfl
end Go.DI


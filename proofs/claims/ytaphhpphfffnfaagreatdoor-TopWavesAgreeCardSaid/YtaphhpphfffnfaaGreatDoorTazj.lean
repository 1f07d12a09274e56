/- The statement TopWavesAgree, as a contract. No condition. -/
import Derived.Test.YtaphhpphfffnfaaGreatDoorTau
import Derived.Test.YtaphhpphfffnfaaGreatDoorTazh
import Derived.Test.YtaphhpphfffnfaaGreatDoorTazi
set_option linter.unusedSimpArgs false
set_option maxRecDepth 100000
namespace Go.DI
open Go.Proofs Go.RowKit
theorem a_1':Contract Tryz.prog 88 [lnI pipeX,nI [5],.int .i64 5] (.tup [nI [5,5,5,5, -5],.int .i64 0]):=by
 have h:=w_ValvePressures (x:=pipeX) (law:=[5]) (t:=5) few_pipe (by decide)
 rwa [if_pos (by decide),show valveL (opn pipeX) [5] (5:Int).toNat=[5,5,5,5, -5] by decide] at h
theorem l_waveShown:Contract Tryz.prog 55 [] (.bool true):=by
 refine contract_run Tryz.func55 k55 rfl ?_
 simp only [body55,b55,res55,vaE, ↓reduceIte,reduceCtorEq,Nat.reduceEqDiff,Nat.reduceAdd,Nat.reduceMul,Nat.reduceSub,Nat.reduceLeDiff,Nat.reduceBEq,Int.reduceToNat,Int.reduceLE,Int.reduceLT,Int.reduceEq,Int.reduceNe,di]
 refine calls_of l_Pipe ?_; simp only [vaE,res55, ↓reduceIte,reduceCtorEq,Nat.reduceEqDiff,Nat.reduceAdd,Nat.reduceMul,Nat.reduceSub,Nat.reduceLeDiff,Nat.reduceBEq,Int.reduceToNat,Int.reduceLE,Int.reduceLT,Int.reduceEq,Int.reduceNe,di]
 simp only [pipeX,vaE, ↓reduceIte,reduceCtorEq,Nat.reduceEqDiff,Nat.reduceAdd,Nat.reduceMul,Nat.reduceSub,Nat.reduceLeDiff,Nat.reduceBEq,Int.reduceToNat,Int.reduceLE,Int.reduceLT,Int.reduceEq,Int.reduceNe,di]
 refine calls_of a_1' ?_; simp only [vaE,res55, ↓reduceIte,reduceCtorEq,Nat.reduceEqDiff,Nat.reduceAdd,Nat.reduceMul,Nat.reduceSub,Nat.reduceLeDiff,Nat.reduceBEq,Int.reduceToNat,Int.reduceLE,Int.reduceLT,Int.reduceEq,Int.reduceNe,di]
 refine calls_of l_Line ?_; simp only [vaE,res55, ↓reduceIte,reduceCtorEq,Nat.reduceEqDiff,Nat.reduceAdd,Nat.reduceMul,Nat.reduceSub,Nat.reduceLeDiff,Nat.reduceBEq,Int.reduceToNat,Int.reduceLE,Int.reduceLT,Int.reduceEq,Int.reduceNe,di]
 refine calls_of a_4 ?_; simp only [vaE,res55, ↓reduceIte,reduceCtorEq,Nat.reduceEqDiff,Nat.reduceAdd,Nat.reduceMul,Nat.reduceSub,Nat.reduceLeDiff,Nat.reduceBEq,Int.reduceToNat,Int.reduceLE,Int.reduceLT,Int.reduceEq,Int.reduceNe,di]
 simp only [ratI,vaE, ↓reduceIte,reduceCtorEq,Nat.reduceEqDiff,Nat.reduceAdd,Nat.reduceMul,Nat.reduceSub,Nat.reduceLeDiff,Nat.reduceBEq,Int.reduceToNat,Int.reduceLE,Int.reduceLT,Int.reduceEq,Int.reduceNe,di]
 refine calls_of (c_Ints (a:=[5,5,5,5, -5]) (b:=[5,5,5,5, -5]) (by decide)) ?_; simp only [vaE,res55, ↓reduceIte,reduceCtorEq,Nat.reduceEqDiff,Nat.reduceAdd,Nat.reduceMul,Nat.reduceSub,Nat.reduceLeDiff,Nat.reduceBEq,Int.reduceToNat,Int.reduceLE,Int.reduceLT,Int.reduceEq,Int.reduceNe,di]
theorem n0:((0:Nat):Int)=0:=rfl
theorem n1:((1:Nat):Int)=1:=rfl
theorem n2:((2:Nat):Int)=2:=rfl
theorem n3:((3:Nat):Int)=3:=rfl
theorem n4:((4:Nat):Int)=4:=rfl
theorem wl1:IntKind.wrap .i64 1=1:=by decide
theorem wl2:IntKind.wrap .i64 2=2:=by decide
theorem wl3:IntKind.wrap .i64 3=3:=by decide
theorem wl4:IntKind.wrap .i64 4=4:=by decide
theorem wl5:IntKind.wrap .i64 5=5:=by decide
theorem wl6:IntKind.wrap .i64 6=6:=by decide
structure Turns (h:Int) (P:Ga) (p:Nat→Int) (M:Int):Prop where
 at':∀ t:Nat,p t=(gmul (turnG (h * t)) P).1
 bd:∀ t:Nat, -M≤p t∧p t≤M
theorem turns_one {P:Ga} {p:Nat→Int} {M:Int} (h:Turns 1 P p M) (i:Nat):(p i,p ((i+3) % 4))=gmul (turnG (1 * (i:Int))) P:=by
 refine Prod.ext (h.at' i) ?_
 show p ((i+3) % 4)=_
 rw [h.at',← turn_quad,show ((((i+3) % 4:Nat)):Int)=((i:Int)+3) % 4 by omega,turn_tick,Int.mul_add,show (1:Int) * 3=3 from rfl]
theorem turns_three {P:Ga} {p:Nat→Int} {M:Int} (h:Turns 3 P p M) (i:Nat):(p i,p ((i+1) % 4))=gmul (turnG (3 * (i:Int))) P:=by
 refine Prod.ext (h.at' i) ?_
 show p ((i+1) % 4)=_
 rw [h.at',← turn_quad,show ((((i+1) % 4:Nat)):Int)=((i:Int)+1) % 4 by omega,turn_tick,Int.mul_add,show (3:Int) * 1=3 from rfl]
def c4 (p:Nat→Int):List DV:=[.imm (.int .i64 (p 0)),.imm (.int .i64 (p 1)),.imm (.int .i64 (p 2)),.imm (.int .i64 (p 3))]
def ga4 (z:Ga × Ga):List DV:=[.imm (.int .i64 z.1.1),.imm (.int .i64 z.1.2),.imm (.int .i64 z.2.1),.imm (.int .i64 z.2.2)]
theorem tw_quot {h:Int} {P Q:Ga} {p q:Nat→Int} {z:Ga × Ga} (hh : 0≤h∧h≤3) (hp:Turns h P p 200000) (hq:Turns h Q q 2000000) (hz:GB 12500000 z.1∧GB 12500000 z.2)
  (hr:∀ T,gmul (gmul T P) z.2=gmul (gmul T Q) z.1) :
  run Tryz.prog b8k11 [] (d8.post (.bool true)) (mkS [(1,.imm (.int .i64 h)),(14,.ref 14 0),(15,.ref 15 0),(27,.ref 27 0)] [(14,.box (c4 p)),(15,.box (c4 q)),(27,.box (ga4 z))]):=by
 have cA:∀ i j:Nat,Contract Tryz.prog 66 [.agg [.int .i64 (p i),.int .i64 (p j)],.agg [.int .i64 z.2.1,.int .i64 z.2.2]] (gI (gmul (p i,p j) z.2)):=fun i j=>c_GMul (u:=(p i,p j)) (v:=z.2) ⟨by have:=hp.bd i; dsimp only; omega,by have:=hp.bd j; dsimp only; omega⟩ hz.2
 have cB:∀ i j:Nat,Contract Tryz.prog 66 [.agg [.int .i64 (q i),.int .i64 (q j)],.agg [.int .i64 z.1.1,.int .i64 z.1.2]] (gI (gmul (q i,q j) z.1)):=fun i j=>c_GMul (u:=(q i,q j)) (v:=z.1) ⟨by have:=hq.bd i; dsimp only; omega,by have:=hq.bd j; dsimp only; omega⟩ hz.1
 have eq1:h=1→∀ i:Nat,gmul (p i,p ((i+3) % 4)) z.2=gmul (q i,q ((i+3) % 4)) z.1:=fun e i=>by
  subst e
  rw [turns_one hp,turns_one hq]
  exact hr _
 have eq3:h=3→∀ i:Nat,gmul (p i,p ((i+1) % 4)) z.2=gmul (q i,q ((i+1) % 4)) z.1:=fun e i=>by
  subst e
  rw [turns_three hp,turns_three hq]
  exact hr _
 simp only [gI] at cA cB
 simp only [b8k11,res8,b8k12,b8k13,b8k14,b8k15,b8k16,b8k17,b8k18,b8k19,c4,ga4,vaE, ↓reduceIte,reduceCtorEq,Nat.reduceEqDiff,Nat.reduceAdd,Nat.reduceMul,Nat.reduceSub,Nat.reduceLeDiff,Nat.reduceBEq,Int.reduceToNat,Int.reduceLE,Int.reduceLT,Int.reduceEq,Int.reduceNe,di]
 refine loop_keep (α:=Nat) rfl (fun i=>4 - i) (fun i=>i≤4)
  (fun i=>[(1,.imm (.int .i64 h)),(14,.ref 14 0),(15,.ref 15 0),(27,.ref 27 0),(29,.imm (.int .i64 i))])
  (fun _=>[(14,.box (c4 p)),(15,.box (c4 q)),(27,.box (ga4 z))]) 0 (Nat.zero_le _) (by simp only [c4,ga4,vaE, ↓reduceIte,reduceCtorEq,Nat.reduceEqDiff,Nat.reduceAdd,Nat.reduceMul,Nat.reduceSub,Nat.reduceLeDiff,Nat.reduceBEq,Int.reduceToNat,Int.reduceLE,Int.reduceLT,Int.reduceEq,Int.reduceNe,di] <;> rfl) ?_
 intro i hi ih
 simp only [b8k9,b8k8,b8k7,b8k6,c4,ga4,vaE, ↓reduceIte,reduceCtorEq,Nat.reduceEqDiff,Nat.reduceAdd,Nat.reduceMul,Nat.reduceSub,Nat.reduceLeDiff,Nat.reduceBEq,Int.reduceToNat,Int.reduceLE,Int.reduceLT,Int.reduceEq,Int.reduceNe,di]
 split
 ·rename_i hlt0
  obtain rfl | rfl | rfl | rfl:i=0∨i=1∨i=2∨i=3:=by omega
  all_goals simp only [n0,n1,n2,n3,n4,wl1,wl2,wl3,wl4,wl5,wl6,Int.reduceAdd,Int.reduceTMod,res8,b8k12,b8k13,b8k14,b8k15,b8k16,b8k17,b8k18,b8k19,b8k9,b8k8,b8k7,b8k6,vaE, ↓reduceIte,reduceCtorEq,Nat.reduceEqDiff,Nat.reduceAdd,Nat.reduceMul,Nat.reduceSub,Nat.reduceLeDiff,Nat.reduceBEq,Int.reduceToNat,Int.reduceLE,Int.reduceLT,Int.reduceEq,Int.reduceNe,di]
  ·obtain rfl | rfl | rfl | rfl:h=0∨h=1∨h=2∨h=3:=by omega
   ·simp only [n0,n1,n2,n3,n4,wl1,wl2,wl3,wl4,wl5,wl6,Int.reduceAdd,Int.reduceTMod,vaE, ↓reduceIte,reduceCtorEq,Nat.reduceEqDiff,Nat.reduceAdd,Nat.reduceMul,Nat.reduceSub,Nat.reduceLeDiff,Nat.reduceBEq,Int.reduceToNat,Int.reduceLE,Int.reduceLT,Int.reduceEq,Int.reduceNe,di]
    exact ih 1 _ _ (by omega) (by omega) (by simp only [c4,ga4,n0,n1,n2,n3,n4,wl1,wl2,wl3,wl4,wl5,wl6,Int.reduceAdd,Int.reduceTMod,vaE, ↓reduceIte,reduceCtorEq,Nat.reduceEqDiff,Nat.reduceAdd,Nat.reduceMul,Nat.reduceSub,Nat.reduceLeDiff,Nat.reduceBEq,Int.reduceToNat,Int.reduceLE,Int.reduceLT,Int.reduceEq,Int.reduceNe,di] <;> rfl)
   ·simp only [n0,n1,n2,n3,n4,wl1,wl2,wl3,wl4,wl5,wl6,Int.reduceAdd,Int.reduceTMod,vaE, ↓reduceIte,reduceCtorEq,Nat.reduceEqDiff,Nat.reduceAdd,Nat.reduceMul,Nat.reduceSub,Nat.reduceLeDiff,Nat.reduceBEq,Int.reduceToNat,Int.reduceLE,Int.reduceLT,Int.reduceEq,Int.reduceNe,di]
    refine calls_of (cA 0 3) ?_; simp only [vaE,res8,b8k12,b8k13,b8k14,b8k15,b8k16,b8k17,b8k18,b8k19, ↓reduceIte,reduceCtorEq,Nat.reduceEqDiff,Nat.reduceAdd,Nat.reduceMul,Nat.reduceSub,Nat.reduceLeDiff,Nat.reduceBEq,Int.reduceToNat,Int.reduceLE,Int.reduceLT,Int.reduceEq,Int.reduceNe,di]
    refine calls_of (cB 0 3) ?_; simp only [vaE,res8,b8k12,b8k13,b8k14,b8k15,b8k16,b8k17,b8k18,b8k19, ↓reduceIte,reduceCtorEq,Nat.reduceEqDiff,Nat.reduceAdd,Nat.reduceMul,Nat.reduceSub,Nat.reduceLeDiff,Nat.reduceBEq,Int.reduceToNat,Int.reduceLE,Int.reduceLT,Int.reduceEq,Int.reduceNe,di]
    rw [show gmul (p 0,p 3) z.2=gmul (q 0,q 3) z.1 from eq1 rfl 0]
    simp only [n0,n1,n2,n3,n4,wl1,wl2,wl3,wl4,wl5,wl6,Int.reduceAdd,Int.reduceTMod,vaE, ↓reduceIte,reduceCtorEq,Nat.reduceEqDiff,Nat.reduceAdd,Nat.reduceMul,Nat.reduceSub,Nat.reduceLeDiff,Nat.reduceBEq,Int.reduceToNat,Int.reduceLE,Int.reduceLT,Int.reduceEq,Int.reduceNe,di]
    exact ih 1 _ _ (by omega) (by omega) (by simp only [c4,ga4,n0,n1,n2,n3,n4,wl1,wl2,wl3,wl4,wl5,wl6,Int.reduceAdd,Int.reduceTMod,vaE, ↓reduceIte,reduceCtorEq,Nat.reduceEqDiff,Nat.reduceAdd,Nat.reduceMul,Nat.reduceSub,Nat.reduceLeDiff,Nat.reduceBEq,Int.reduceToNat,Int.reduceLE,Int.reduceLT,Int.reduceEq,Int.reduceNe,di] <;> rfl)
   ·simp only [n0,n1,n2,n3,n4,wl1,wl2,wl3,wl4,wl5,wl6,Int.reduceAdd,Int.reduceTMod,vaE, ↓reduceIte,reduceCtorEq,Nat.reduceEqDiff,Nat.reduceAdd,Nat.reduceMul,Nat.reduceSub,Nat.reduceLeDiff,Nat.reduceBEq,Int.reduceToNat,Int.reduceLE,Int.reduceLT,Int.reduceEq,Int.reduceNe,di]
    exact ih 1 _ _ (by omega) (by omega) (by simp only [c4,ga4,n0,n1,n2,n3,n4,wl1,wl2,wl3,wl4,wl5,wl6,Int.reduceAdd,Int.reduceTMod,vaE, ↓reduceIte,reduceCtorEq,Nat.reduceEqDiff,Nat.reduceAdd,Nat.reduceMul,Nat.reduceSub,Nat.reduceLeDiff,Nat.reduceBEq,Int.reduceToNat,Int.reduceLE,Int.reduceLT,Int.reduceEq,Int.reduceNe,di] <;> rfl)
   ·simp only [n0,n1,n2,n3,n4,wl1,wl2,wl3,wl4,wl5,wl6,Int.reduceAdd,Int.reduceTMod,vaE, ↓reduceIte,reduceCtorEq,Nat.reduceEqDiff,Nat.reduceAdd,Nat.reduceMul,Nat.reduceSub,Nat.reduceLeDiff,Nat.reduceBEq,Int.reduceToNat,Int.reduceLE,Int.reduceLT,Int.reduceEq,Int.reduceNe,di]
    refine calls_of (cA 0 1) ?_; simp only [vaE,res8,b8k12,b8k13,b8k14,b8k15,b8k16,b8k17,b8k18,b8k19, ↓reduceIte,reduceCtorEq,Nat.reduceEqDiff,Nat.reduceAdd,Nat.reduceMul,Nat.reduceSub,Nat.reduceLeDiff,Nat.reduceBEq,Int.reduceToNat,Int.reduceLE,Int.reduceLT,Int.reduceEq,Int.reduceNe,di]
    refine calls_of (cB 0 1) ?_; simp only [vaE,res8,b8k12,b8k13,b8k14,b8k15,b8k16,b8k17,b8k18,b8k19, ↓reduceIte,reduceCtorEq,Nat.reduceEqDiff,Nat.reduceAdd,Nat.reduceMul,Nat.reduceSub,Nat.reduceLeDiff,Nat.reduceBEq,Int.reduceToNat,Int.reduceLE,Int.reduceLT,Int.reduceEq,Int.reduceNe,di]
    rw [show gmul (p 0,p 1) z.2=gmul (q 0,q 1) z.1 from eq3 rfl 0]
    simp only [n0,n1,n2,n3,n4,wl1,wl2,wl3,wl4,wl5,wl6,Int.reduceAdd,Int.reduceTMod,vaE, ↓reduceIte,reduceCtorEq,Nat.reduceEqDiff,Nat.reduceAdd,Nat.reduceMul,Nat.reduceSub,Nat.reduceLeDiff,Nat.reduceBEq,Int.reduceToNat,Int.reduceLE,Int.reduceLT,Int.reduceEq,Int.reduceNe,di]
    exact ih 1 _ _ (by omega) (by omega) (by simp only [c4,ga4,n0,n1,n2,n3,n4,wl1,wl2,wl3,wl4,wl5,wl6,Int.reduceAdd,Int.reduceTMod,vaE, ↓reduceIte,reduceCtorEq,Nat.reduceEqDiff,Nat.reduceAdd,Nat.reduceMul,Nat.reduceSub,Nat.reduceLeDiff,Nat.reduceBEq,Int.reduceToNat,Int.reduceLE,Int.reduceLT,Int.reduceEq,Int.reduceNe,di] <;> rfl)
  ·obtain rfl | rfl | rfl | rfl:h=0∨h=1∨h=2∨h=3:=by omega
   ·simp only [n0,n1,n2,n3,n4,wl1,wl2,wl3,wl4,wl5,wl6,Int.reduceAdd,Int.reduceTMod,vaE, ↓reduceIte,reduceCtorEq,Nat.reduceEqDiff,Nat.reduceAdd,Nat.reduceMul,Nat.reduceSub,Nat.reduceLeDiff,Nat.reduceBEq,Int.reduceToNat,Int.reduceLE,Int.reduceLT,Int.reduceEq,Int.reduceNe,di]
    exact ih 2 _ _ (by omega) (by omega) (by simp only [c4,ga4,n0,n1,n2,n3,n4,wl1,wl2,wl3,wl4,wl5,wl6,Int.reduceAdd,Int.reduceTMod,vaE, ↓reduceIte,reduceCtorEq,Nat.reduceEqDiff,Nat.reduceAdd,Nat.reduceMul,Nat.reduceSub,Nat.reduceLeDiff,Nat.reduceBEq,Int.reduceToNat,Int.reduceLE,Int.reduceLT,Int.reduceEq,Int.reduceNe,di] <;> rfl)
   ·simp only [n0,n1,n2,n3,n4,wl1,wl2,wl3,wl4,wl5,wl6,Int.reduceAdd,Int.reduceTMod,vaE, ↓reduceIte,reduceCtorEq,Nat.reduceEqDiff,Nat.reduceAdd,Nat.reduceMul,Nat.reduceSub,Nat.reduceLeDiff,Nat.reduceBEq,Int.reduceToNat,Int.reduceLE,Int.reduceLT,Int.reduceEq,Int.reduceNe,di]
    refine calls_of (cA 1 0) ?_; simp only [vaE,res8,b8k12,b8k13,b8k14,b8k15,b8k16,b8k17,b8k18,b8k19, ↓reduceIte,reduceCtorEq,Nat.reduceEqDiff,Nat.reduceAdd,Nat.reduceMul,Nat.reduceSub,Nat.reduceLeDiff,Nat.reduceBEq,Int.reduceToNat,Int.reduceLE,Int.reduceLT,Int.reduceEq,Int.reduceNe,di]
    refine calls_of (cB 1 0) ?_; simp only [vaE,res8,b8k12,b8k13,b8k14,b8k15,b8k16,b8k17,b8k18,b8k19, ↓reduceIte,reduceCtorEq,Nat.reduceEqDiff,Nat.reduceAdd,Nat.reduceMul,Nat.reduceSub,Nat.reduceLeDiff,Nat.reduceBEq,Int.reduceToNat,Int.reduceLE,Int.reduceLT,Int.reduceEq,Int.reduceNe,di]
    rw [show gmul (p 1,p 0) z.2=gmul (q 1,q 0) z.1 from eq1 rfl 1]
    simp only [n0,n1,n2,n3,n4,wl1,wl2,wl3,wl4,wl5,wl6,Int.reduceAdd,Int.reduceTMod,vaE, ↓reduceIte,reduceCtorEq,Nat.reduceEqDiff,Nat.reduceAdd,Nat.reduceMul,Nat.reduceSub,Nat.reduceLeDiff,Nat.reduceBEq,Int.reduceToNat,Int.reduceLE,Int.reduceLT,Int.reduceEq,Int.reduceNe,di]
    exact ih 2 _ _ (by omega) (by omega) (by simp only [c4,ga4,n0,n1,n2,n3,n4,wl1,wl2,wl3,wl4,wl5,wl6,Int.reduceAdd,Int.reduceTMod,vaE, ↓reduceIte,reduceCtorEq,Nat.reduceEqDiff,Nat.reduceAdd,Nat.reduceMul,Nat.reduceSub,Nat.reduceLeDiff,Nat.reduceBEq,Int.reduceToNat,Int.reduceLE,Int.reduceLT,Int.reduceEq,Int.reduceNe,di] <;> rfl)
   ·simp only [n0,n1,n2,n3,n4,wl1,wl2,wl3,wl4,wl5,wl6,Int.reduceAdd,Int.reduceTMod,vaE, ↓reduceIte,reduceCtorEq,Nat.reduceEqDiff,Nat.reduceAdd,Nat.reduceMul,Nat.reduceSub,Nat.reduceLeDiff,Nat.reduceBEq,Int.reduceToNat,Int.reduceLE,Int.reduceLT,Int.reduceEq,Int.reduceNe,di]
    exact ih 2 _ _ (by omega) (by omega) (by simp only [c4,ga4,n0,n1,n2,n3,n4,wl1,wl2,wl3,wl4,wl5,wl6,Int.reduceAdd,Int.reduceTMod,vaE, ↓reduceIte,reduceCtorEq,Nat.reduceEqDiff,Nat.reduceAdd,Nat.reduceMul,Nat.reduceSub,Nat.reduceLeDiff,Nat.reduceBEq,Int.reduceToNat,Int.reduceLE,Int.reduceLT,Int.reduceEq,Int.reduceNe,di] <;> rfl)
   ·simp only [n0,n1,n2,n3,n4,wl1,wl2,wl3,wl4,wl5,wl6,Int.reduceAdd,Int.reduceTMod,vaE, ↓reduceIte,reduceCtorEq,Nat.reduceEqDiff,Nat.reduceAdd,Nat.reduceMul,Nat.reduceSub,Nat.reduceLeDiff,Nat.reduceBEq,Int.reduceToNat,Int.reduceLE,Int.reduceLT,Int.reduceEq,Int.reduceNe,di]
    refine calls_of (cA 1 2) ?_; simp only [vaE,res8,b8k12,b8k13,b8k14,b8k15,b8k16,b8k17,b8k18,b8k19, ↓reduceIte,reduceCtorEq,Nat.reduceEqDiff,Nat.reduceAdd,Nat.reduceMul,Nat.reduceSub,Nat.reduceLeDiff,Nat.reduceBEq,Int.reduceToNat,Int.reduceLE,Int.reduceLT,Int.reduceEq,Int.reduceNe,di]
    refine calls_of (cB 1 2) ?_; simp only [vaE,res8,b8k12,b8k13,b8k14,b8k15,b8k16,b8k17,b8k18,b8k19, ↓reduceIte,reduceCtorEq,Nat.reduceEqDiff,Nat.reduceAdd,Nat.reduceMul,Nat.reduceSub,Nat.reduceLeDiff,Nat.reduceBEq,Int.reduceToNat,Int.reduceLE,Int.reduceLT,Int.reduceEq,Int.reduceNe,di]
    rw [show gmul (p 1,p 2) z.2=gmul (q 1,q 2) z.1 from eq3 rfl 1]
    simp only [n0,n1,n2,n3,n4,wl1,wl2,wl3,wl4,wl5,wl6,Int.reduceAdd,Int.reduceTMod,vaE, ↓reduceIte,reduceCtorEq,Nat.reduceEqDiff,Nat.reduceAdd,Nat.reduceMul,Nat.reduceSub,Nat.reduceLeDiff,Nat.reduceBEq,Int.reduceToNat,Int.reduceLE,Int.reduceLT,Int.reduceEq,Int.reduceNe,di]
    exact ih 2 _ _ (by omega) (by omega) (by simp only [c4,ga4,n0,n1,n2,n3,n4,wl1,wl2,wl3,wl4,wl5,wl6,Int.reduceAdd,Int.reduceTMod,vaE, ↓reduceIte,reduceCtorEq,Nat.reduceEqDiff,Nat.reduceAdd,Nat.reduceMul,Nat.reduceSub,Nat.reduceLeDiff,Nat.reduceBEq,Int.reduceToNat,Int.reduceLE,Int.reduceLT,Int.reduceEq,Int.reduceNe,di] <;> rfl)
  ·obtain rfl | rfl | rfl | rfl:h=0∨h=1∨h=2∨h=3:=by omega
   ·simp only [n0,n1,n2,n3,n4,wl1,wl2,wl3,wl4,wl5,wl6,Int.reduceAdd,Int.reduceTMod,vaE, ↓reduceIte,reduceCtorEq,Nat.reduceEqDiff,Nat.reduceAdd,Nat.reduceMul,Nat.reduceSub,Nat.reduceLeDiff,Nat.reduceBEq,Int.reduceToNat,Int.reduceLE,Int.reduceLT,Int.reduceEq,Int.reduceNe,di]
    exact ih 3 _ _ (by omega) (by omega) (by simp only [c4,ga4,n0,n1,n2,n3,n4,wl1,wl2,wl3,wl4,wl5,wl6,Int.reduceAdd,Int.reduceTMod,vaE, ↓reduceIte,reduceCtorEq,Nat.reduceEqDiff,Nat.reduceAdd,Nat.reduceMul,Nat.reduceSub,Nat.reduceLeDiff,Nat.reduceBEq,Int.reduceToNat,Int.reduceLE,Int.reduceLT,Int.reduceEq,Int.reduceNe,di] <;> rfl)
   ·simp only [n0,n1,n2,n3,n4,wl1,wl2,wl3,wl4,wl5,wl6,Int.reduceAdd,Int.reduceTMod,vaE, ↓reduceIte,reduceCtorEq,Nat.reduceEqDiff,Nat.reduceAdd,Nat.reduceMul,Nat.reduceSub,Nat.reduceLeDiff,Nat.reduceBEq,Int.reduceToNat,Int.reduceLE,Int.reduceLT,Int.reduceEq,Int.reduceNe,di]
    refine calls_of (cA 2 1) ?_; simp only [vaE,res8,b8k12,b8k13,b8k14,b8k15,b8k16,b8k17,b8k18,b8k19, ↓reduceIte,reduceCtorEq,Nat.reduceEqDiff,Nat.reduceAdd,Nat.reduceMul,Nat.reduceSub,Nat.reduceLeDiff,Nat.reduceBEq,Int.reduceToNat,Int.reduceLE,Int.reduceLT,Int.reduceEq,Int.reduceNe,di]
    refine calls_of (cB 2 1) ?_; simp only [vaE,res8,b8k12,b8k13,b8k14,b8k15,b8k16,b8k17,b8k18,b8k19, ↓reduceIte,reduceCtorEq,Nat.reduceEqDiff,Nat.reduceAdd,Nat.reduceMul,Nat.reduceSub,Nat.reduceLeDiff,Nat.reduceBEq,Int.reduceToNat,Int.reduceLE,Int.reduceLT,Int.reduceEq,Int.reduceNe,di]
    rw [show gmul (p 2,p 1) z.2=gmul (q 2,q 1) z.1 from eq1 rfl 2]
    simp only [n0,n1,n2,n3,n4,wl1,wl2,wl3,wl4,wl5,wl6,Int.reduceAdd,Int.reduceTMod,vaE, ↓reduceIte,reduceCtorEq,Nat.reduceEqDiff,Nat.reduceAdd,Nat.reduceMul,Nat.reduceSub,Nat.reduceLeDiff,Nat.reduceBEq,Int.reduceToNat,Int.reduceLE,Int.reduceLT,Int.reduceEq,Int.reduceNe,di]
    exact ih 3 _ _ (by omega) (by omega) (by simp only [c4,ga4,n0,n1,n2,n3,n4,wl1,wl2,wl3,wl4,wl5,wl6,Int.reduceAdd,Int.reduceTMod,vaE, ↓reduceIte,reduceCtorEq,Nat.reduceEqDiff,Nat.reduceAdd,Nat.reduceMul,Nat.reduceSub,Nat.reduceLeDiff,Nat.reduceBEq,Int.reduceToNat,Int.reduceLE,Int.reduceLT,Int.reduceEq,Int.reduceNe,di] <;> rfl)
   ·simp only [n0,n1,n2,n3,n4,wl1,wl2,wl3,wl4,wl5,wl6,Int.reduceAdd,Int.reduceTMod,vaE, ↓reduceIte,reduceCtorEq,Nat.reduceEqDiff,Nat.reduceAdd,Nat.reduceMul,Nat.reduceSub,Nat.reduceLeDiff,Nat.reduceBEq,Int.reduceToNat,Int.reduceLE,Int.reduceLT,Int.reduceEq,Int.reduceNe,di]
    exact ih 3 _ _ (by omega) (by omega) (by simp only [c4,ga4,n0,n1,n2,n3,n4,wl1,wl2,wl3,wl4,wl5,wl6,Int.reduceAdd,Int.reduceTMod,vaE, ↓reduceIte,reduceCtorEq,Nat.reduceEqDiff,Nat.reduceAdd,Nat.reduceMul,Nat.reduceSub,Nat.reduceLeDiff,Nat.reduceBEq,Int.reduceToNat,Int.reduceLE,Int.reduceLT,Int.reduceEq,Int.reduceNe,di] <;> rfl)
   ·simp only [n0,n1,n2,n3,n4,wl1,wl2,wl3,wl4,wl5,wl6,Int.reduceAdd,Int.reduceTMod,vaE, ↓reduceIte,reduceCtorEq,Nat.reduceEqDiff,Nat.reduceAdd,Nat.reduceMul,Nat.reduceSub,Nat.reduceLeDiff,Nat.reduceBEq,Int.reduceToNat,Int.reduceLE,Int.reduceLT,Int.reduceEq,Int.reduceNe,di]
    refine calls_of (cA 2 3) ?_; simp only [vaE,res8,b8k12,b8k13,b8k14,b8k15,b8k16,b8k17,b8k18,b8k19, ↓reduceIte,reduceCtorEq,Nat.reduceEqDiff,Nat.reduceAdd,Nat.reduceMul,Nat.reduceSub,Nat.reduceLeDiff,Nat.reduceBEq,Int.reduceToNat,Int.reduceLE,Int.reduceLT,Int.reduceEq,Int.reduceNe,di]
    refine calls_of (cB 2 3) ?_; simp only [vaE,res8,b8k12,b8k13,b8k14,b8k15,b8k16,b8k17,b8k18,b8k19, ↓reduceIte,reduceCtorEq,Nat.reduceEqDiff,Nat.reduceAdd,Nat.reduceMul,Nat.reduceSub,Nat.reduceLeDiff,Nat.reduceBEq,Int.reduceToNat,Int.reduceLE,Int.reduceLT,Int.reduceEq,Int.reduceNe,di]
    rw [show gmul (p 2,p 3) z.2=gmul (q 2,q 3) z.1 from eq3 rfl 2]
    simp only [n0,n1,n2,n3,n4,wl1,wl2,wl3,wl4,wl5,wl6,Int.reduceAdd,Int.reduceTMod,vaE, ↓reduceIte,reduceCtorEq,Nat.reduceEqDiff,Nat.reduceAdd,Nat.reduceMul,Nat.reduceSub,Nat.reduceLeDiff,Nat.reduceBEq,Int.reduceToNat,Int.reduceLE,Int.reduceLT,Int.reduceEq,Int.reduceNe,di]
    exact ih 3 _ _ (by omega) (by omega) (by simp only [c4,ga4,n0,n1,n2,n3,n4,wl1,wl2,wl3,wl4,wl5,wl6,Int.reduceAdd,Int.reduceTMod,vaE, ↓reduceIte,reduceCtorEq,Nat.reduceEqDiff,Nat.reduceAdd,Nat.reduceMul,Nat.reduceSub,Nat.reduceLeDiff,Nat.reduceBEq,Int.reduceToNat,Int.reduceLE,Int.reduceLT,Int.reduceEq,Int.reduceNe,di] <;> rfl)
  ·obtain rfl | rfl | rfl | rfl:h=0∨h=1∨h=2∨h=3:=by omega
   ·simp only [n0,n1,n2,n3,n4,wl1,wl2,wl3,wl4,wl5,wl6,Int.reduceAdd,Int.reduceTMod,vaE, ↓reduceIte,reduceCtorEq,Nat.reduceEqDiff,Nat.reduceAdd,Nat.reduceMul,Nat.reduceSub,Nat.reduceLeDiff,Nat.reduceBEq,Int.reduceToNat,Int.reduceLE,Int.reduceLT,Int.reduceEq,Int.reduceNe,di]
    exact ih 4 _ _ (by omega) (by omega) (by simp only [c4,ga4,n0,n1,n2,n3,n4,wl1,wl2,wl3,wl4,wl5,wl6,Int.reduceAdd,Int.reduceTMod,vaE, ↓reduceIte,reduceCtorEq,Nat.reduceEqDiff,Nat.reduceAdd,Nat.reduceMul,Nat.reduceSub,Nat.reduceLeDiff,Nat.reduceBEq,Int.reduceToNat,Int.reduceLE,Int.reduceLT,Int.reduceEq,Int.reduceNe,di] <;> rfl)
   ·simp only [n0,n1,n2,n3,n4,wl1,wl2,wl3,wl4,wl5,wl6,Int.reduceAdd,Int.reduceTMod,vaE, ↓reduceIte,reduceCtorEq,Nat.reduceEqDiff,Nat.reduceAdd,Nat.reduceMul,Nat.reduceSub,Nat.reduceLeDiff,Nat.reduceBEq,Int.reduceToNat,Int.reduceLE,Int.reduceLT,Int.reduceEq,Int.reduceNe,di]
    refine calls_of (cA 3 2) ?_; simp only [vaE,res8,b8k12,b8k13,b8k14,b8k15,b8k16,b8k17,b8k18,b8k19, ↓reduceIte,reduceCtorEq,Nat.reduceEqDiff,Nat.reduceAdd,Nat.reduceMul,Nat.reduceSub,Nat.reduceLeDiff,Nat.reduceBEq,Int.reduceToNat,Int.reduceLE,Int.reduceLT,Int.reduceEq,Int.reduceNe,di]
    refine calls_of (cB 3 2) ?_; simp only [vaE,res8,b8k12,b8k13,b8k14,b8k15,b8k16,b8k17,b8k18,b8k19, ↓reduceIte,reduceCtorEq,Nat.reduceEqDiff,Nat.reduceAdd,Nat.reduceMul,Nat.reduceSub,Nat.reduceLeDiff,Nat.reduceBEq,Int.reduceToNat,Int.reduceLE,Int.reduceLT,Int.reduceEq,Int.reduceNe,di]
    rw [show gmul (p 3,p 2) z.2=gmul (q 3,q 2) z.1 from eq1 rfl 3]
    simp only [n0,n1,n2,n3,n4,wl1,wl2,wl3,wl4,wl5,wl6,Int.reduceAdd,Int.reduceTMod,vaE, ↓reduceIte,reduceCtorEq,Nat.reduceEqDiff,Nat.reduceAdd,Nat.reduceMul,Nat.reduceSub,Nat.reduceLeDiff,Nat.reduceBEq,Int.reduceToNat,Int.reduceLE,Int.reduceLT,Int.reduceEq,Int.reduceNe,di]
    exact ih 4 _ _ (by omega) (by omega) (by simp only [c4,ga4,n0,n1,n2,n3,n4,wl1,wl2,wl3,wl4,wl5,wl6,Int.reduceAdd,Int.reduceTMod,vaE, ↓reduceIte,reduceCtorEq,Nat.reduceEqDiff,Nat.reduceAdd,Nat.reduceMul,Nat.reduceSub,Nat.reduceLeDiff,Nat.reduceBEq,Int.reduceToNat,Int.reduceLE,Int.reduceLT,Int.reduceEq,Int.reduceNe,di] <;> rfl)
   ·simp only [n0,n1,n2,n3,n4,wl1,wl2,wl3,wl4,wl5,wl6,Int.reduceAdd,Int.reduceTMod,vaE, ↓reduceIte,reduceCtorEq,Nat.reduceEqDiff,Nat.reduceAdd,Nat.reduceMul,Nat.reduceSub,Nat.reduceLeDiff,Nat.reduceBEq,Int.reduceToNat,Int.reduceLE,Int.reduceLT,Int.reduceEq,Int.reduceNe,di]
    exact ih 4 _ _ (by omega) (by omega) (by simp only [c4,ga4,n0,n1,n2,n3,n4,wl1,wl2,wl3,wl4,wl5,wl6,Int.reduceAdd,Int.reduceTMod,vaE, ↓reduceIte,reduceCtorEq,Nat.reduceEqDiff,Nat.reduceAdd,Nat.reduceMul,Nat.reduceSub,Nat.reduceLeDiff,Nat.reduceBEq,Int.reduceToNat,Int.reduceLE,Int.reduceLT,Int.reduceEq,Int.reduceNe,di] <;> rfl)
   ·simp only [n0,n1,n2,n3,n4,wl1,wl2,wl3,wl4,wl5,wl6,Int.reduceAdd,Int.reduceTMod,vaE, ↓reduceIte,reduceCtorEq,Nat.reduceEqDiff,Nat.reduceAdd,Nat.reduceMul,Nat.reduceSub,Nat.reduceLeDiff,Nat.reduceBEq,Int.reduceToNat,Int.reduceLE,Int.reduceLT,Int.reduceEq,Int.reduceNe,di]
    refine calls_of (cA 3 0) ?_; simp only [vaE,res8,b8k12,b8k13,b8k14,b8k15,b8k16,b8k17,b8k18,b8k19, ↓reduceIte,reduceCtorEq,Nat.reduceEqDiff,Nat.reduceAdd,Nat.reduceMul,Nat.reduceSub,Nat.reduceLeDiff,Nat.reduceBEq,Int.reduceToNat,Int.reduceLE,Int.reduceLT,Int.reduceEq,Int.reduceNe,di]
    refine calls_of (cB 3 0) ?_; simp only [vaE,res8,b8k12,b8k13,b8k14,b8k15,b8k16,b8k17,b8k18,b8k19, ↓reduceIte,reduceCtorEq,Nat.reduceEqDiff,Nat.reduceAdd,Nat.reduceMul,Nat.reduceSub,Nat.reduceLeDiff,Nat.reduceBEq,Int.reduceToNat,Int.reduceLE,Int.reduceLT,Int.reduceEq,Int.reduceNe,di]
    rw [show gmul (p 3,p 0) z.2=gmul (q 3,q 0) z.1 from eq3 rfl 3]
    simp only [n0,n1,n2,n3,n4,wl1,wl2,wl3,wl4,wl5,wl6,Int.reduceAdd,Int.reduceTMod,vaE, ↓reduceIte,reduceCtorEq,Nat.reduceEqDiff,Nat.reduceAdd,Nat.reduceMul,Nat.reduceSub,Nat.reduceLeDiff,Nat.reduceBEq,Int.reduceToNat,Int.reduceLE,Int.reduceLT,Int.reduceEq,Int.reduceNe,di]
    exact ih 4 _ _ (by omega) (by omega) (by simp only [c4,ga4,n0,n1,n2,n3,n4,wl1,wl2,wl3,wl4,wl5,wl6,Int.reduceAdd,Int.reduceTMod,vaE, ↓reduceIte,reduceCtorEq,Nat.reduceEqDiff,Nat.reduceAdd,Nat.reduceMul,Nat.reduceSub,Nat.reduceLeDiff,Nat.reduceBEq,Int.reduceToNat,Int.reduceLE,Int.reduceLT,Int.reduceEq,Int.reduceNe,di] <;> rfl)
 ·simp only [b8k10,res8,b8k12,b8k13,b8k14,b8k15,b8k16,b8k17,b8k18,b8k19,vaE, ↓reduceIte,reduceCtorEq,Nat.reduceEqDiff,Nat.reduceAdd,Nat.reduceMul,Nat.reduceSub,Nat.reduceLeDiff,Nat.reduceBEq,Int.reduceToNat,Int.reduceLE,Int.reduceLT,Int.reduceEq,Int.reduceNe,di]
theorem tw_imp {x:Ln} {h:Int} {P Q:Ga} {p q:Nat→Int} (hx:Few x) (hxo:LineOk x) (hh : 0≤h∧h≤3) (hp:Turns h P p 200000) (hq:Turns h Q q 2000000)
  (h0:(lowM (lineMat (opn x) h)).d=(0,0)→∀ t,q t=0) (hr:(lowM (lineMat (opn x) h)).d ≠ (0,0)→∀ T,gmul (gmul T P) (impL (lowM (lineMat (opn x) h))).2=gmul (gmul T Q) (impL (lowM (lineMat (opn x) h))).1) :
  run Tryz.prog b8k13 [] (d8.post (.bool true)) (mkS [(1,.imm (.int .i64 h)),(3,.ref 3 0),(14,.ref 14 0),(15,.ref 15 0)] [(3,.box [.imm (.slc 2 (x.pp.map ppI)),.imm (nI x.ar)]),(14,.box (c4 p)),(15,.box (c4 q))]):=by
 have hm:matE x h=0:=fstE_zero.2 ⟨chkL_ok.2 hxo,by unfold quarterE; rw [if_pos hh]⟩
 have w:=w_ImpedanceAt (h:=h) hx
 rw [if_pos hm] at w
 obtain ⟨hlow,_⟩:=low_ok (h:=h) (opn_ok hxo)
 have tq:=fun hd hz=>tw_quot (z:=impL (lowM (lineMat (opn x) h))) hh hp hq hz (hr hd)
 simp only [c4,ga4] at tq
 simp only [b8k13,b8k12,res8,b8k13,b8k14,b8k15,b8k16,b8k17,b8k18,b8k19,c4,vaE, ↓reduceIte,reduceCtorEq,Nat.reduceEqDiff,Nat.reduceAdd,Nat.reduceMul,Nat.reduceSub,Nat.reduceLeDiff,Nat.reduceBEq,Int.reduceToNat,Int.reduceLE,Int.reduceLT,Int.reduceEq,Int.reduceNe,di]
 refine calls_of (r_CopyLine hx) ?_; simp only [vaE,res8,b8k13,b8k14,b8k15,b8k16,b8k17,b8k18,b8k19, ↓reduceIte,reduceCtorEq,Nat.reduceEqDiff,Nat.reduceAdd,Nat.reduceMul,Nat.reduceSub,Nat.reduceLeDiff,Nat.reduceBEq,Int.reduceToNat,Int.reduceLE,Int.reduceLT,Int.reduceEq,Int.reduceNe,di]
 by_cases hd:(lowM (lineMat (opn x) h)).d=(0,0)
 ·rw [if_pos hd] at w
  simp only [ratI] at w
  have z:=h0 hd
  refine calls_of w ?_; simp only [vaE,res8,b8k13,b8k14,b8k15,b8k16,b8k17,b8k18,b8k19, ↓reduceIte,reduceCtorEq,Nat.reduceEqDiff,Nat.reduceAdd,Nat.reduceMul,Nat.reduceSub,Nat.reduceLeDiff,Nat.reduceBEq,Int.reduceToNat,Int.reduceLE,Int.reduceLT,Int.reduceEq,Int.reduceNe,di]
  simp only [z,vaE, ↓reduceIte,reduceCtorEq,Nat.reduceEqDiff,Nat.reduceAdd,Nat.reduceMul,Nat.reduceSub,Nat.reduceLeDiff,Nat.reduceBEq,Int.reduceToNat,Int.reduceLE,Int.reduceLT,Int.reduceEq,Int.reduceNe,di]
  try trivial
 ·rw [if_neg hd] at w
  simp only [ratI] at w
  have hz:=(imp_ok hlow.b hlow.d (by decide) hd).1
  have tq:=tq hd hz
  generalize impL (lowM (lineMat (opn x) h))=z at *
  have z1:=hz.1.1; have z2:=hz.1.2; have z3:=hz.2.1; have z4:=hz.2.2
  refine calls_of w ?_; simp only [vaE,res8,b8k13,b8k14,b8k15,b8k16,b8k17,b8k18,b8k19, ↓reduceIte,reduceCtorEq,Nat.reduceEqDiff,Nat.reduceAdd,Nat.reduceMul,Nat.reduceSub,Nat.reduceLeDiff,Nat.reduceBEq,Int.reduceToNat,Int.reduceLE,Int.reduceLT,Int.reduceEq,Int.reduceNe,di]
  refine calls_of c_Within ?_; simp only [vaE,res8,b8k13,b8k14,b8k15,b8k16,b8k17,b8k18,b8k19, ↓reduceIte,reduceCtorEq,Nat.reduceEqDiff,Nat.reduceAdd,Nat.reduceMul,Nat.reduceSub,Nat.reduceLeDiff,Nat.reduceBEq,Int.reduceToNat,Int.reduceLE,Int.reduceLT,Int.reduceEq,Int.reduceNe,di]
  rw [if_pos (by omega)]
  refine calls_of c_Within ?_; simp only [vaE,res8,b8k13,b8k14,b8k15,b8k16,b8k17,b8k18,b8k19, ↓reduceIte,reduceCtorEq,Nat.reduceEqDiff,Nat.reduceAdd,Nat.reduceMul,Nat.reduceSub,Nat.reduceLeDiff,Nat.reduceBEq,Int.reduceToNat,Int.reduceLE,Int.reduceLT,Int.reduceEq,Int.reduceNe,di]
  rw [if_pos (by omega)]
  refine calls_of c_Within ?_; simp only [vaE,res8,b8k13,b8k14,b8k15,b8k16,b8k17,b8k18,b8k19, ↓reduceIte,reduceCtorEq,Nat.reduceEqDiff,Nat.reduceAdd,Nat.reduceMul,Nat.reduceSub,Nat.reduceLeDiff,Nat.reduceBEq,Int.reduceToNat,Int.reduceLE,Int.reduceLT,Int.reduceEq,Int.reduceNe,di]
  rw [if_pos (by omega)]
  refine calls_of c_Within ?_; simp only [vaE,res8,b8k13,b8k14,b8k15,b8k16,b8k17,b8k18,b8k19, ↓reduceIte,reduceCtorEq,Nat.reduceEqDiff,Nat.reduceAdd,Nat.reduceMul,Nat.reduceSub,Nat.reduceLeDiff,Nat.reduceBEq,Int.reduceToNat,Int.reduceLE,Int.reduceLT,Int.reduceEq,Int.reduceNe,di]
  rw [if_pos (by omega)]
  exact tq
theorem satP_four {u:Sty} {t:Int}:satP u (t+3+1)=satP u t:=by
 unfold satP
 rw [show (t+3+1) % 4=t % 4 by omega]
theorem satS_four {u:Sty} {t:Int}:satS u (t+3+1)=satS u t:=by
 unfold satS
 rw [satP_four]
def stdC (u:Sty):List DV:=[.imm (.int .i64 u.q),.imm (.slc 2 (u.F.map gI)),.imm (.slc 2 (u.B.map gI)),.imm (.slc 2 (u.L.map gI)),.imm (.int .i64 u.c.1),.imm (.int .i64 u.c.2)]
def pr4 (p:Nat→Int) (k:Nat):List DV:=[.imm (.int .i64 (if 0<k then p 0 else 0)),.imm (.int .i64 (if 1<k then p 1 else 0)),.imm (.int .i64 (if 2<k then p 2 else 0)),.imm (.int .i64 (if 3<k then p 3 else 0))]
structure TwOk (x:Ln) (h:Int) (u:Sty) (N:Nat) (Y:Int) (P Q:Ga):Prop where
 few:FewG u
 at':∀ t:Int,0≤t→t≤7→Contract Tryz.prog 60 [lnI x,stdI u,.int .i64 t] (.tup [wsI (satS u t),.int .i64 (gmul (turnG (satP u t)) u.c).1,.int .i64 0])
 st:∀ t,stE x (satS u t)=0
 tick:∀ t,Contract Tryz.prog 63 [lnI x,wsI (satS u (t+3)),.int .i64 (gmul (turnG (satP u t)) u.c).1] (.tup [wsI (satS u t),.int .i64 0])
 len:u.F.length=N+1∧u.B.length=N+1
 lv:∀ t, -100000≤lvS u N t∧lvS u N t≤100000
 et:∀ t, -100000≤etS u N t∧etS u N t≤100000
 cl:∀ t,lvS u N t - etS u N t = -(gmul (turnG (satP u t)) u.c).1
 cb:∀ t, -1000≤(gmul (turnG (satP u t)) u.c).1∧(gmul (turnG (satP u t)) u.c).1≤1000
 y : 1≤Y∧Y≤10
 p:∀ t:Nat,lvS u N t+etS u N t=(gmul (turnG (h * t)) P).1
 q:∀ t:Nat,Y * (lvS u N t - etS u N t)=(gmul (turnG (h * t)) Q).1
theorem tw_ok {x:Ln} {h:Int} {g:Ga} {m N:Nat} (hx:Few x) (hxo:LineOk x) (hm:x.pp.length=m+1) (hN:(opn x).n.toNat=N+1) (hz:stdE x (styF (opn x) h (2 * g.1,2 * g.2))=0)
  (hb:∀ v ∈ (styF (opn x) h (2 * g.1,2 * g.2)).F ++ (styF (opn x) h (2 * g.1,2 * g.2)).B,(-100000≤v.1∧v.1≤100000) ∧ -100000≤v.2∧v.2≤100000)
  (hc:(-1000≤(styF (opn x) h (2 * g.1,2 * g.2)).c.1∧(styF (opn x) h (2 * g.1,2 * g.2)).c.1≤1000) ∧ -1000≤(styF (opn x) h (2 * g.1,2 * g.2)).c.2∧(styF (opn x) h (2 * g.1,2 * g.2)).c.2≤1000) :
  TwOk x h (styF (opn x) h (2 * g.1,2 * g.2)) N (x.pp.getD m default).2 (afF (opn x) h (2 * g.1,2 * g.2) m).1 (afF (opn x) h (2 * g.1,2 * g.2) m).2:=by
 have how:=opn_ok hxo
 have hzs:=hz
 unfold stdE at hzs
 rw [fstE_zero,fstE_zero,fstE_zero,prtE_zero] at hzs
 have ok:=fun t=>sty_ok (t:=t) hxo hzs.2
 have tk:=fun t=>sty_tick (t:=t) hxo hzs.2
 have vp:=fun t=>(valve_at (h:=h) (t:=t) (g:=g) hxo hm hN).p
 have vq:=fun t=>(valve_at (h:=h) (t:=t) (g:=g) hxo hm hN).q
 have vc:=fun t=>(valve_at (h:=h) (t:=t) (g:=g) hxo hm hN).c
 have hy:=(hxo.pip _ (getD_mem (l:=x.pp) (i:=m) (d:=default) (by omega))).2
 have e1:=fwA_len (h:=h) (f:=(2 * g.1,2 * g.2)) how (opn x).pp.length (Nat.le_refl _)
 have e2:=bwA_len (h:=h) (f:=(2 * g.1,2 * g.2)) how (opn x).pp.length (Nat.le_refl _)
 have e3:=leA_len (x:=opn x) (h:=h) (f:=(2 * g.1,2 * g.2)) (opn x).ar.length
 rw [List.take_of_length_le (Nat.le_refl _)] at e1 e2
 have e1:((fwA (opn x) h (2 * g.1,2 * g.2) (opn x).pp.length).length:Int)=(opn x).n:=e1
 have e2:((bwA (opn x) h (2 * g.1,2 * g.2) (opn x).pp.length).length:Int)=(opn x).n:=e2
 have har:(opn x).ar=x.ar:=rfl
 have hars:=hxo.ars
 have hlen:=hxo.len
 have nb:=how.nb
 have hs:FewG (styF (opn x) h (2 * g.1,2 * g.2)):=⟨by show (fwA _ _ _ (opn x).pp.length).length≤_; omega,by show (bwA _ _ _ (opn x).pp.length).length≤_; omega,by show (leA _ _ _ (opn x).ar.length).length≤_; rw [e3,har]; omega⟩
 have hlF:(styF (opn x) h (2 * g.1,2 * g.2)).F.length=N+1:=by show (fwA _ _ _ (opn x).pp.length).length=_; omega
 have hlB:(styF (opn x) h (2 * g.1,2 * g.2)).B.length=N+1:=by show (bwA _ _ _ (opn x).pp.length).length=_; omega
 generalize styF (opn x) h (2 * g.1,2 * g.2)=u at *
 have cb:∀ t, -1000≤(gmul (turnG (satP u t)) u.c).1∧(gmul (turnG (satP u t)) u.c).1≤1000:=fun t=>re_bdB hc.1 hc.2
 have st0:∀ t,stE x (satS u t)=0:=fun t=>stE_zero.2 ⟨hxo,ok t⟩
 refine ⟨hs,fun t h0 h1 => ?_,st0,fun t => ?_,⟨hlF,hlB⟩,fun t => ?_,fun t => ?_,fun t => ?_,cb,hy,fun t=>vp t,fun t=>vq t⟩
 ·have e:satE x u t=0:=fstE_zero.2 ⟨hz,tickE_zero.2 ⟨h0,by omega⟩⟩
  have w:=w_StateAt (t:=t) hx hs
  rw [show satZ x u t=satS u t by unfold satZ; rw [if_pos e],show satC x u t=(gmul (turnG (satP u t)) u.c).1 by unfold satC; rw [if_pos e],e] at w
  exact w
 ·have c:=cb t
  have re:runE x (satS u (t+3)) [(gmul (turnG (satP u t)) u.c).1]=0:=by
   rw [runE_one (st0 _)]
   unfold closeE
   rw [if_pos c]
  have rz:runZ x (satS u (t+3)) [(gmul (turnG (satP u t)) u.c).1]=satS u t:=by
   unfold runZ
   rw [if_pos re]
   have:=tk (t+3)
   rw [satP_four,satS_four] at this
   exact this
  have w1:=w_Stepped' (c:=(gmul (turnG (satP u t)) u.c).1) hx (few_satS (t:=t+3) hs)
  rw [rz,re] at w1
  exact w1
 ·exact re_getB (by decide) fun v hv=>hb v (List.mem_append_left _ hv)
 ·exact re_getB (by decide) fun v hv=>hb v (List.mem_append_right _ hv)
 ·exact vc t
def pT (u:Sty) (N:Nat) (k:Nat):Int:=lvS u N k+etS u N k
def qT (u:Sty) (N:Nat) (Y:Int) (k:Nat):Int:=Y * (lvS u N k - etS u N k)
theorem tw_turns {x:Ln} {h Y:Int} {u:Sty} {N:Nat} {P Q:Ga} (w:TwOk x h u N Y P Q):Turns h P (pT u N) 200000∧Turns h Q (qT u N Y) 2000000:=by
 refine ⟨⟨fun t=>w.p t,fun t => ?_⟩,⟨fun t=>w.q t,fun t => ?_⟩⟩
 ·have:=w.lv t; have:=w.et t
  unfold pT
  omega
 ·have h1:=w.lv t; have h2:=w.et t; have h3:=w.y
  have:=mul_bd (y:=Y) (a:=lvS u N t - etS u N t) (M:=200000) (k:=10) ⟨by omega,h3.2⟩ (by decide) ⟨by omega,by omega⟩
  unfold qT
  omega
theorem tw_ticks {x:Ln} {h:Int} {u:Sty} {N m:Nat} {P Q:Ga} (hx:Few x) (hxo:LineOk x) (hm:x.pp.length=m+1) (w:TwOk x h u N (x.pp.getD m default).2 P Q)
  (go:run Tryz.prog b8k13 [] (d8.post (.bool true)) (mkS [(1,.imm (.int .i64 h)),(3,.ref 3 0),(14,.ref 14 0),(15,.ref 15 0)] [(3,.box [.imm (.slc 2 (x.pp.map ppI)),.imm (nI x.ar)]),(14,.box (c4 (pT u N))),(15,.box (c4 (qT u N (x.pp.getD m default).2)))])) :
  run Tryz.prog b8k14 [] (d8.post (.bool true)) (mkS [(1,.imm (.int .i64 h)),(3,.ref 3 0),(9,.ref 9 0)] [(3,.box [.imm (.slc 2 (x.pp.map ppI)),.imm (nI x.ar)]),(9,.box (stdC u))]):=by
 have hlF:=w.len.1
 have hf:=w.few.1
 have hq3:=r_CopySteady w.few
 have fS:∀ t,FewS (satS u t):=fun t=>few_satS w.few
 simp only [stdI] at hq3
 have sat:=w.at'
 simp only [stdI] at sat
 simp only [c4] at go
 simp only [b8k14,res8,b8k15,b8k16,b8k17,b8k18,b8k19,stdC,vaE, ↓reduceIte,reduceCtorEq,Nat.reduceEqDiff,Nat.reduceAdd,Nat.reduceMul,Nat.reduceSub,Nat.reduceLeDiff,Nat.reduceBEq,Int.reduceToNat,Int.reduceLE,Int.reduceLT,Int.reduceEq,Int.reduceNe,di]
 rw [wrapS (n:=((u.F.length:Nat):Int) - 1) (by omega) (by omega),show ((u.F.length:Nat):Int) - 1=(N:Int) by omega]
 refine loop_keep (α:=Nat) rfl (fun k=>4 - k) (fun k=>k≤4)
  (fun k=>[(1,.imm (.int .i64 h)),(3,.ref 3 0),(9,.ref 9 0),(13,.imm (.int .i64 N)),(14,.ref 14 0),(15,.ref 15 0),(16,.imm (.int .i64 k))])
  (fun k=>[(3,.box [.imm (.slc 2 (x.pp.map ppI)),.imm (nI x.ar)]),(9,.box (stdC u)),(14,.box (pr4 (pT u N) k)),(15,.box (pr4 (qT u N (x.pp.getD m default).2) k))]) 0 (Nat.zero_le _) (by simp only [stdC,pr4,vaE, ↓reduceIte,reduceCtorEq,Nat.reduceEqDiff,Nat.reduceAdd,Nat.reduceMul,Nat.reduceSub,Nat.reduceLeDiff,Nat.reduceBEq,Int.reduceToNat,Int.reduceLE,Int.reduceLT,Int.reduceEq,Int.reduceNe,di] <;> rfl) ?_
 intro k hk ih
 simp only [b8k5,b8k4,b8k3,b8k2,stdC,pr4,vaE, ↓reduceIte,reduceCtorEq,Nat.reduceEqDiff,Nat.reduceAdd,Nat.reduceMul,Nat.reduceSub,Nat.reduceLeDiff,Nat.reduceBEq,Int.reduceToNat,Int.reduceLE,Int.reduceLT,Int.reduceEq,Int.reduceNe,di]
 split
 ·rename_i hlt0
  have ih':=fun S R=>ih (k+1) S R (by omega) (by omega)
  have tk:=w.tick k
  have s0:=w.st (k:Int)
  have s3:=w.st ((k:Int)+3)
  refine calls_of (r_CopyLine hx) ?_; simp only [vaE,res8,b8k15,b8k16,b8k17,b8k18,b8k19, ↓reduceIte,reduceCtorEq,Nat.reduceEqDiff,Nat.reduceAdd,Nat.reduceMul,Nat.reduceSub,Nat.reduceLeDiff,Nat.reduceBEq,Int.reduceToNat,Int.reduceLE,Int.reduceLT,Int.reduceEq,Int.reduceNe,di]
  refine calls_of hq3 ?_; simp only [vaE,res8,b8k15,b8k16,b8k17,b8k18,b8k19, ↓reduceIte,reduceCtorEq,Nat.reduceEqDiff,Nat.reduceAdd,Nat.reduceMul,Nat.reduceSub,Nat.reduceLeDiff,Nat.reduceBEq,Int.reduceToNat,Int.reduceLE,Int.reduceLT,Int.reduceEq,Int.reduceNe,di]
  rw [wrapS (n:=(k:Int)+3) (by omega) (by omega)]
  refine calls_of (sat ((k:Int)+3) (by omega) (by omega)) ?_; simp only [vaE,res8,b8k15,b8k16,b8k17,b8k18,b8k19, ↓reduceIte,reduceCtorEq,Nat.reduceEqDiff,Nat.reduceAdd,Nat.reduceMul,Nat.reduceSub,Nat.reduceLeDiff,Nat.reduceBEq,Int.reduceToNat,Int.reduceLE,Int.reduceLT,Int.reduceEq,Int.reduceNe,di]
  refine calls_of (r_CopyLine hx) ?_; simp only [vaE,res8,b8k15,b8k16,b8k17,b8k18,b8k19, ↓reduceIte,reduceCtorEq,Nat.reduceEqDiff,Nat.reduceAdd,Nat.reduceMul,Nat.reduceSub,Nat.reduceLeDiff,Nat.reduceBEq,Int.reduceToNat,Int.reduceLE,Int.reduceLT,Int.reduceEq,Int.reduceNe,di]
  refine calls_of hq3 ?_; simp only [vaE,res8,b8k15,b8k16,b8k17,b8k18,b8k19, ↓reduceIte,reduceCtorEq,Nat.reduceEqDiff,Nat.reduceAdd,Nat.reduceMul,Nat.reduceSub,Nat.reduceLeDiff,Nat.reduceBEq,Int.reduceToNat,Int.reduceLE,Int.reduceLT,Int.reduceEq,Int.reduceNe,di]
  refine calls_of (sat (k:Int) (by omega) (by omega)) ?_; simp only [vaE,res8,b8k15,b8k16,b8k17,b8k18,b8k19, ↓reduceIte,reduceCtorEq,Nat.reduceEqDiff,Nat.reduceAdd,Nat.reduceMul,Nat.reduceSub,Nat.reduceLeDiff,Nat.reduceBEq,Int.reduceToNat,Int.reduceLE,Int.reduceLT,Int.reduceEq,Int.reduceNe,di]
  refine calls_of (r_StateErr hx (fS ((k:Int)+3))) ?_; simp only [vaE,res8,b8k15,b8k16,b8k17,b8k18,b8k19, ↓reduceIte,reduceCtorEq,Nat.reduceEqDiff,Nat.reduceAdd,Nat.reduceMul,Nat.reduceSub,Nat.reduceLeDiff,Nat.reduceBEq,Int.reduceToNat,Int.reduceLE,Int.reduceLT,Int.reduceEq,Int.reduceNe,di]
  simp only [s3,vaE, ↓reduceIte,reduceCtorEq,Nat.reduceEqDiff,Nat.reduceAdd,Nat.reduceMul,Nat.reduceSub,Nat.reduceLeDiff,Nat.reduceBEq,Int.reduceToNat,Int.reduceLE,Int.reduceLT,Int.reduceEq,Int.reduceNe,di]
  refine calls_of (r_CopyLine hx) ?_; simp only [vaE,res8,b8k15,b8k16,b8k17,b8k18,b8k19, ↓reduceIte,reduceCtorEq,Nat.reduceEqDiff,Nat.reduceAdd,Nat.reduceMul,Nat.reduceSub,Nat.reduceLeDiff,Nat.reduceBEq,Int.reduceToNat,Int.reduceLE,Int.reduceLT,Int.reduceEq,Int.reduceNe,di]
  refine calls_of (r_CopyState (fS ((k:Int)+3))) ?_; simp only [vaE,res8,b8k15,b8k16,b8k17,b8k18,b8k19, ↓reduceIte,reduceCtorEq,Nat.reduceEqDiff,Nat.reduceAdd,Nat.reduceMul,Nat.reduceSub,Nat.reduceLeDiff,Nat.reduceBEq,Int.reduceToNat,Int.reduceLE,Int.reduceLT,Int.reduceEq,Int.reduceNe,di]
  refine calls_of tk ?_; simp only [vaE,res8,b8k15,b8k16,b8k17,b8k18,b8k19, ↓reduceIte,reduceCtorEq,Nat.reduceEqDiff,Nat.reduceAdd,Nat.reduceMul,Nat.reduceSub,Nat.reduceLeDiff,Nat.reduceBEq,Int.reduceToNat,Int.reduceLE,Int.reduceLT,Int.reduceEq,Int.reduceNe,di]
  refine calls_of (r_StateErr hx (fS (k:Int))) ?_; simp only [vaE,res8,b8k15,b8k16,b8k17,b8k18,b8k19, ↓reduceIte,reduceCtorEq,Nat.reduceEqDiff,Nat.reduceAdd,Nat.reduceMul,Nat.reduceSub,Nat.reduceLeDiff,Nat.reduceBEq,Int.reduceToNat,Int.reduceLE,Int.reduceLT,Int.reduceEq,Int.reduceNe,di]
  simp only [s0,vaE, ↓reduceIte,reduceCtorEq,Nat.reduceEqDiff,Nat.reduceAdd,Nat.reduceMul,Nat.reduceSub,Nat.reduceLeDiff,Nat.reduceBEq,Int.reduceToNat,Int.reduceLE,Int.reduceLT,Int.reduceEq,Int.reduceNe,di]
  have hlen:=hxo.len
  have lb:=w.lv (k:Int)
  have eb:=w.et (k:Int)
  have hcl:=w.cl (k:Int)
  have hcb:=w.cb (k:Int)
  have hy:=w.y
  have qb:=(tw_turns w).2.bd k
  have pb:=(tw_turns w).1.bd k
  have lF:(satS u ((k:Int)+3)).F.length=N+1:=by show (reL _ u.F).length=_; unfold reL; rw [List.length_map]; exact w.len.1
  have lB:(satS u (k:Int)).B.length=N+1:=by show (reL _ u.B).length=_; unfold reL; rw [List.length_map]; exact w.len.2
  have hqd:qT u N (x.pp.getD m default).2 k=(0 - (x.pp.getD m default).2) * (gmul (turnG (satP u (k:Int))) u.c).1:=by
   unfold qT
   rw [hcl]
   grind
  simp only [lF,lB,show (satS u ((k:Int)+3)).F.getD N 0=lvS u N k from rfl,show (satS u (k:Int)).B.getD N 0=etS u N k from rfl,
   show IntKind.wrap .i64 ((x.pp.length:Int) - 1)=(m:Int) by rw [wrapS (by omega) (by omega)]; omega,
   show IntKind.wrap .i64 (lvS u N k+etS u N k)=pT u N k from wrapS (by omega) (by omega),
   show IntKind.wrap .i64 (lvS u N k - etS u N k)=lvS u N k - etS u N k from wrapS (by omega) (by omega),Int.toNat_natCast]
  simp only [show IntKind.wrap .i64 ((x.pp.getD m default).2 * (lvS u N k - etS u N k))=qT u N (x.pp.getD m default).2 k from wrapS (by unfold qT at qb; omega) (by unfold qT at qb; omega)]
  refine ⟨by omega,by omega,by omega,by omega,by omega,by omega,by omega,by omega,by omega,?_⟩
  have hwm:IntKind.wrap .i64 ((x.pp.length:Int) - 1)=(m:Int):=by rw [wrapS (by omega) (by omega)]; omega
  generalize hYe:(x.pp.getD m default).2=Y at *
  have hyc:=mul_bd (y:=Y) (a:=(gmul (turnG (satP u (k:Int))) u.c).1) (M:=1000) (k:=10) ⟨by omega,hy.2⟩ (by decide) hcb
  generalize hce:(gmul (turnG (satP u (k:Int))) u.c).1=ck at *
  generalize pT u N=p at *
  generalize qT u N Y=q at *
  obtain rfl | rfl | rfl | rfl:k=0∨k=1∨k=2∨k=3:=by omega
  ·simp only [tak,mkAggO,Nat.reduceLT,n0,n1,n2,n3,n4,wl1,wl2,wl3,wl4,wl5,wl6,Int.reduceAdd,Int.reduceTMod,res8,b8k15,b8k16,b8k17,b8k18,b8k19,vaE, ↓reduceIte,reduceCtorEq,Nat.reduceEqDiff,Nat.reduceAdd,Nat.reduceMul,Nat.reduceSub,Nat.reduceLeDiff,Nat.reduceBEq,Int.reduceToNat,Int.reduceLE,Int.reduceLT,Int.reduceEq,Int.reduceNe,di]
   rw [hwm]
   refine ⟨by omega,by omega,?_⟩
   rw [Int.toNat_natCast,hYe,wrapS (n:=0 - Y) (by omega) (by omega),wrapS (n:=(0 - Y) * ck) (by rw [← hqd]; omega) (by rw [← hqd]; omega),if_pos hqd]
   exact ih' _ _ (by simp only [stdC,pr4,Nat.reduceLT,n0,n1,n2,n3,n4,wl1,wl2,wl3,wl4,wl5,wl6,Int.reduceAdd,Int.reduceTMod,vaE, ↓reduceIte,reduceCtorEq,Nat.reduceEqDiff,Nat.reduceAdd,Nat.reduceMul,Nat.reduceSub,Nat.reduceLeDiff,Nat.reduceBEq,Int.reduceToNat,Int.reduceLE,Int.reduceLT,Int.reduceEq,Int.reduceNe,di] <;> rfl)
  ·simp only [tak,mkAggO,Nat.reduceLT,n0,n1,n2,n3,n4,wl1,wl2,wl3,wl4,wl5,wl6,Int.reduceAdd,Int.reduceTMod,res8,b8k15,b8k16,b8k17,b8k18,b8k19,vaE, ↓reduceIte,reduceCtorEq,Nat.reduceEqDiff,Nat.reduceAdd,Nat.reduceMul,Nat.reduceSub,Nat.reduceLeDiff,Nat.reduceBEq,Int.reduceToNat,Int.reduceLE,Int.reduceLT,Int.reduceEq,Int.reduceNe,di]
   rw [hwm]
   refine ⟨by omega,by omega,?_⟩
   rw [Int.toNat_natCast,hYe,wrapS (n:=0 - Y) (by omega) (by omega),wrapS (n:=(0 - Y) * ck) (by rw [← hqd]; omega) (by rw [← hqd]; omega),if_pos hqd]
   exact ih' _ _ (by simp only [stdC,pr4,Nat.reduceLT,n0,n1,n2,n3,n4,wl1,wl2,wl3,wl4,wl5,wl6,Int.reduceAdd,Int.reduceTMod,vaE, ↓reduceIte,reduceCtorEq,Nat.reduceEqDiff,Nat.reduceAdd,Nat.reduceMul,Nat.reduceSub,Nat.reduceLeDiff,Nat.reduceBEq,Int.reduceToNat,Int.reduceLE,Int.reduceLT,Int.reduceEq,Int.reduceNe,di] <;> rfl)
  ·simp only [tak,mkAggO,Nat.reduceLT,n0,n1,n2,n3,n4,wl1,wl2,wl3,wl4,wl5,wl6,Int.reduceAdd,Int.reduceTMod,res8,b8k15,b8k16,b8k17,b8k18,b8k19,vaE, ↓reduceIte,reduceCtorEq,Nat.reduceEqDiff,Nat.reduceAdd,Nat.reduceMul,Nat.reduceSub,Nat.reduceLeDiff,Nat.reduceBEq,Int.reduceToNat,Int.reduceLE,Int.reduceLT,Int.reduceEq,Int.reduceNe,di]
   rw [hwm]
   refine ⟨by omega,by omega,?_⟩
   rw [Int.toNat_natCast,hYe,wrapS (n:=0 - Y) (by omega) (by omega),wrapS (n:=(0 - Y) * ck) (by rw [← hqd]; omega) (by rw [← hqd]; omega),if_pos hqd]
   exact ih' _ _ (by simp only [stdC,pr4,Nat.reduceLT,n0,n1,n2,n3,n4,wl1,wl2,wl3,wl4,wl5,wl6,Int.reduceAdd,Int.reduceTMod,vaE, ↓reduceIte,reduceCtorEq,Nat.reduceEqDiff,Nat.reduceAdd,Nat.reduceMul,Nat.reduceSub,Nat.reduceLeDiff,Nat.reduceBEq,Int.reduceToNat,Int.reduceLE,Int.reduceLT,Int.reduceEq,Int.reduceNe,di] <;> rfl)
  ·simp only [tak,mkAggO,Nat.reduceLT,n0,n1,n2,n3,n4,wl1,wl2,wl3,wl4,wl5,wl6,Int.reduceAdd,Int.reduceTMod,res8,b8k15,b8k16,b8k17,b8k18,b8k19,vaE, ↓reduceIte,reduceCtorEq,Nat.reduceEqDiff,Nat.reduceAdd,Nat.reduceMul,Nat.reduceSub,Nat.reduceLeDiff,Nat.reduceBEq,Int.reduceToNat,Int.reduceLE,Int.reduceLT,Int.reduceEq,Int.reduceNe,di]
   rw [hwm]
   refine ⟨by omega,by omega,?_⟩
   rw [Int.toNat_natCast,hYe,wrapS (n:=0 - Y) (by omega) (by omega),wrapS (n:=(0 - Y) * ck) (by rw [← hqd]; omega) (by rw [← hqd]; omega),if_pos hqd]
   exact ih' _ _ (by simp only [stdC,pr4,Nat.reduceLT,n0,n1,n2,n3,n4,wl1,wl2,wl3,wl4,wl5,wl6,Int.reduceAdd,Int.reduceTMod,vaE, ↓reduceIte,reduceCtorEq,Nat.reduceEqDiff,Nat.reduceAdd,Nat.reduceMul,Nat.reduceSub,Nat.reduceLeDiff,Nat.reduceBEq,Int.reduceToNat,Int.reduceLE,Int.reduceLT,Int.reduceEq,Int.reduceNe,di] <;> rfl)
 ·rename_i hge
  obtain rfl:k=4:=by omega
  simp only [Nat.reduceLT,res8,b8k15,b8k16,b8k17,b8k18,b8k19,vaE, ↓reduceIte,reduceCtorEq,Nat.reduceEqDiff,Nat.reduceAdd,Nat.reduceMul,Nat.reduceSub,Nat.reduceLeDiff,Nat.reduceBEq,Int.reduceToNat,Int.reduceLE,Int.reduceLT,Int.reduceEq,Int.reduceNe,di]
  exact go
theorem tw_close {x:Ln} {h:Int} {g:Ga} {N m:Nat} (hx:Few x) (hxo:LineOk x) (hm:x.pp.length=m+1) (hN:(opn x).n.toNat=N+1) (hh : 0≤h∧h≤3) (hz:stdE x (styF (opn x) h (2 * g.1,2 * g.2))=0)
  (hb:∀ v ∈ (styF (opn x) h (2 * g.1,2 * g.2)).F ++ (styF (opn x) h (2 * g.1,2 * g.2)).B,(-100000≤v.1∧v.1≤100000) ∧ -100000≤v.2∧v.2≤100000) :
  run Tryz.prog b8k15 [] (d8.post (.bool true)) (mkS [(1,.imm (.int .i64 h)),(3,.ref 3 0),(9,.ref 9 0)] [(3,.box [.imm (.slc 2 (x.pp.map ppI)),.imm (nI x.ar)]),(9,.box (stdC (styF (opn x) h (2 * g.1,2 * g.2))))]):=by
 have ok:=fun hc=>tw_ok hx hxo hm hN hz hb hc
 have res:=sty_res (h:=h) (g:=g) hxo
 have ratio:=fun hd T=>imp_ratio (x:=x) (h:=h) (f:=(2 * g.1,2 * g.2)) (T:=T) hxo hm hd
 have low:=(low_ok (h:=h) (opn_ok hxo)).2
 generalize styF (opn x) h (2 * g.1,2 * g.2)=u at *
 have tk:=fun hc=>tw_ticks hx hxo hm (ok hc) (tw_imp hx hxo hh (tw_turns (ok hc)).1 (tw_turns (ok hc)).2 (fun hd t=>by
  have hz:=res (low.1 hd)
  have:=(ok hc).cl t
  unfold qT
  rw [this,hz]
  unfold gmul
  simp) ratio)
 simp only [stdC] at tk
 simp only [b8k15,res8,b8k16,b8k17,b8k18,b8k19,stdC,vaE, ↓reduceIte,reduceCtorEq,Nat.reduceEqDiff,Nat.reduceAdd,Nat.reduceMul,Nat.reduceSub,Nat.reduceLeDiff,Nat.reduceBEq,Int.reduceToNat,Int.reduceLE,Int.reduceLT,Int.reduceEq,Int.reduceNe,di]
 refine calls_of c_Within ?_; simp only [vaE,res8,b8k16,b8k17,b8k18,b8k19, ↓reduceIte,reduceCtorEq,Nat.reduceEqDiff,Nat.reduceAdd,Nat.reduceMul,Nat.reduceSub,Nat.reduceLeDiff,Nat.reduceBEq,Int.reduceToNat,Int.reduceLE,Int.reduceLT,Int.reduceEq,Int.reduceNe,di]
 by_cases h1 : -1000≤u.c.1∧u.c.1≤1000
 rotate_left
 ·simp only [h1,vaE, ↓reduceIte,reduceCtorEq,Nat.reduceEqDiff,Nat.reduceAdd,Nat.reduceMul,Nat.reduceSub,Nat.reduceLeDiff,Nat.reduceBEq,Int.reduceToNat,Int.reduceLE,Int.reduceLT,Int.reduceEq,Int.reduceNe,di]
 simp only [h1,vaE, ↓reduceIte,reduceCtorEq,Nat.reduceEqDiff,Nat.reduceAdd,Nat.reduceMul,Nat.reduceSub,Nat.reduceLeDiff,Nat.reduceBEq,Int.reduceToNat,Int.reduceLE,Int.reduceLT,Int.reduceEq,Int.reduceNe,di]
 refine calls_of c_Within ?_; simp only [vaE,res8,b8k16,b8k17,b8k18,b8k19, ↓reduceIte,reduceCtorEq,Nat.reduceEqDiff,Nat.reduceAdd,Nat.reduceMul,Nat.reduceSub,Nat.reduceLeDiff,Nat.reduceBEq,Int.reduceToNat,Int.reduceLE,Int.reduceLT,Int.reduceEq,Int.reduceNe,di]
 by_cases h2 : -1000≤u.c.2∧u.c.2≤1000
 rotate_left
 ·simp only [h2,vaE, ↓reduceIte,reduceCtorEq,Nat.reduceEqDiff,Nat.reduceAdd,Nat.reduceMul,Nat.reduceSub,Nat.reduceLeDiff,Nat.reduceBEq,Int.reduceToNat,Int.reduceLE,Int.reduceLT,Int.reduceEq,Int.reduceNe,di]
 simp only [h2,vaE, ↓reduceIte,reduceCtorEq,Nat.reduceEqDiff,Nat.reduceAdd,Nat.reduceMul,Nat.reduceSub,Nat.reduceLeDiff,Nat.reduceBEq,Int.reduceToNat,Int.reduceLE,Int.reduceLT,Int.reduceEq,Int.reduceNe,di]
 exact tk ⟨h1,h2⟩
theorem tw_amps {x:Ln} {h:Int} {g:Ga} {N m:Nat} (hx:Few x) (hxo:LineOk x) (hm:x.pp.length=m+1) (hN:(opn x).n.toNat=N+1) (hh : 0≤h∧h≤3) (hz:(∀ v ∈ allG (styF (opn x) h (2 * g.1,2 * g.2)),partOk v)→stdE x (styF (opn x) h (2 * g.1,2 * g.2))=0)
  (hf:FewG (styF (opn x) h (2 * g.1,2 * g.2))) :
  run Tryz.prog b8k16 [] (d8.post (.bool true)) (mkS [(1,.imm (.int .i64 h)),(3,.ref 3 0),(9,.ref 9 0)] [(3,.box [.imm (.slc 2 (x.pp.map ppI)),.imm (nI x.ar)]),(9,.box (stdC (styF (opn x) h (2 * g.1,2 * g.2))))]):=by
 have go:=fun hz hb=>tw_close hx hxo hm hN hh (g:=g) hz hb
 generalize styF (opn x) h (2 * g.1,2 * g.2)=u at *
 obtain ⟨f1,f2,f3⟩:=hf
 simp only [stdC] at go
 simp only [b8k16,res8,b8k17,b8k18,b8k19,stdC,vaE, ↓reduceIte,reduceCtorEq,Nat.reduceEqDiff,Nat.reduceAdd,Nat.reduceMul,Nat.reduceSub,Nat.reduceLeDiff,Nat.reduceBEq,Int.reduceToNat,Int.reduceLE,Int.reduceLT,Int.reduceEq,Int.reduceNe,di]
 simp only [List.length_append]
 refine ⟨by omega,by omega,by omega,by omega,by omega,by omega,by omega,by omega,?_⟩
 have el:List.map gI (u.F ++ u.B ++ u.L) ++ [IV.agg [.int .i64 u.c.1,.int .i64 u.c.2]]=(u.F ++ u.B ++ u.L ++ [u.c]).map gI:=by
  rw [List.map_append (l₁:=u.F ++ u.B ++ u.L)]; rfl
 rw [el]
 have hmem:∀ v ∈ u.F ++ u.B,v ∈ u.F ++ u.B ++ u.L ++ [u.c]:=fun v hv=>List.mem_append_left _ (List.mem_append_left _ hv)
 have hll:(u.F ++ u.B ++ u.L ++ [u.c]).length≤3000001:=by
  simp only [List.length_append,List.length_singleton]
  omega
 have hag:allG u=u.F ++ u.B ++ u.L ++ [u.c]:=rfl
 rw [hag] at hz
 generalize u.F ++ u.B ++ u.L ++ [u.c]=l at *
 refine loop_keep (α:=Nat) rfl (fun i=>l.length - i) (fun i=>i≤l.length∧∀ j,j<i→((-100000≤(l.getD j default).1∧(l.getD j default).1≤100000) ∧ -100000≤(l.getD j default).2∧(l.getD j default).2≤100000))
  (fun i=>[(1,.imm (.int .i64 h)),(3,.ref 3 0),(9,.ref 9 0),(11,.imm (.slc 2 (l.map gI))),(12,.imm (.int .i64 i))])
  (fun _=>[(3,.box [.imm (.slc 2 (x.pp.map ppI)),.imm (nI x.ar)]),(9,.box (stdC u))]) 0 ⟨Nat.zero_le _,fun j hj=>absurd hj (Nat.not_lt_zero _)⟩ (by simp only [stdC,vaE, ↓reduceIte,reduceCtorEq,Nat.reduceEqDiff,Nat.reduceAdd,Nat.reduceMul,Nat.reduceSub,Nat.reduceLeDiff,Nat.reduceBEq,Int.reduceToNat,Int.reduceLE,Int.reduceLT,Int.reduceEq,Int.reduceNe,di] <;> rfl) ?_
 rintro i ⟨hi,hall⟩ ih
 simp only [res8,b8k17,b8k18,b8k19,b8k1,b8k0,stdC,gI,vaE, ↓reduceIte,reduceCtorEq,Nat.reduceEqDiff,Nat.reduceAdd,Nat.reduceMul,Nat.reduceSub,Nat.reduceLeDiff,Nat.reduceBEq,Int.reduceToNat,Int.reduceLE,Int.reduceLT,Int.reduceEq,Int.reduceNe,di]
 split
 ·rename_i hlt0
  have hlt:i<l.length:=by omega
  refine ⟨hlt0,?_⟩
  have ih':=fun S R=>ih (i+1) S R (by omega)
  have hstep:((-100000≤(l.getD i default).1∧(l.getD i default).1≤100000) ∧ -100000≤(l.getD i default).2∧(l.getD i default).2≤100000)→∀ j,j<i+1→((-100000≤(l.getD j default).1∧(l.getD j default).1≤100000) ∧ -100000≤(l.getD j default).2∧(l.getD j default).2≤100000):=by
   intro h0 j hj
   by_cases e:j=i
   ·subst e; exact h0
   ·exact hall j (by omega)
  refine calls_of c_Within ?_; simp only [vaE,res8,b8k17,b8k18,b8k19, ↓reduceIte,reduceCtorEq,Nat.reduceEqDiff,Nat.reduceAdd,Nat.reduceMul,Nat.reduceSub,Nat.reduceLeDiff,Nat.reduceBEq,Int.reduceToNat,Int.reduceLE,Int.reduceLT,Int.reduceEq,Int.reduceNe,di]
  by_cases h1 : -100000≤(l.getD i default).1∧(l.getD i default).1≤100000
  rotate_left
  ·simp only [h1,vaE, ↓reduceIte,reduceCtorEq,Nat.reduceEqDiff,Nat.reduceAdd,Nat.reduceMul,Nat.reduceSub,Nat.reduceLeDiff,Nat.reduceBEq,Int.reduceToNat,Int.reduceLE,Int.reduceLT,Int.reduceEq,Int.reduceNe,di]
  simp only [h1,vaE, ↓reduceIte,reduceCtorEq,Nat.reduceEqDiff,Nat.reduceAdd,Nat.reduceMul,Nat.reduceSub,Nat.reduceLeDiff,Nat.reduceBEq,Int.reduceToNat,Int.reduceLE,Int.reduceLT,Int.reduceEq,Int.reduceNe,di]
  refine ⟨hlt0,?_⟩
  simp only [res8,b8k17,b8k18,b8k19,b8k1,b8k0,gI,vaE, ↓reduceIte,reduceCtorEq,Nat.reduceEqDiff,Nat.reduceAdd,Nat.reduceMul,Nat.reduceSub,Nat.reduceLeDiff,Nat.reduceBEq,Int.reduceToNat,Int.reduceLE,Int.reduceLT,Int.reduceEq,Int.reduceNe,di]
  refine calls_of c_Within ?_; simp only [vaE,res8,b8k17,b8k18,b8k19, ↓reduceIte,reduceCtorEq,Nat.reduceEqDiff,Nat.reduceAdd,Nat.reduceMul,Nat.reduceSub,Nat.reduceLeDiff,Nat.reduceBEq,Int.reduceToNat,Int.reduceLE,Int.reduceLT,Int.reduceEq,Int.reduceNe,di]
  by_cases h2 : -100000≤(l.getD i default).2∧(l.getD i default).2≤100000
  rotate_left
  ·simp only [h2,vaE, ↓reduceIte,reduceCtorEq,Nat.reduceEqDiff,Nat.reduceAdd,Nat.reduceMul,Nat.reduceSub,Nat.reduceLeDiff,Nat.reduceBEq,Int.reduceToNat,Int.reduceLE,Int.reduceLT,Int.reduceEq,Int.reduceNe,di]
  simp only [h2,b8k1,b8k0,vaE, ↓reduceIte,reduceCtorEq,Nat.reduceEqDiff,Nat.reduceAdd,Nat.reduceMul,Nat.reduceSub,Nat.reduceLeDiff,Nat.reduceBEq,Int.reduceToNat,Int.reduceLE,Int.reduceLT,Int.reduceEq,Int.reduceNe,di]
  rw [wrapS (n:=(i:Int)+1) (by omega) (by omega)]
  exact ih' _ _ ⟨by omega,hstep ⟨h1,h2⟩⟩ (by simp only [stdC,vaE, ↓reduceIte,reduceCtorEq,Nat.reduceEqDiff,Nat.reduceAdd,Nat.reduceMul,Nat.reduceSub,Nat.reduceLeDiff,Nat.reduceBEq,Int.reduceToNat,Int.reduceLE,Int.reduceLT,Int.reduceEq,Int.reduceNe,di] <;> rfl)
 ·rename_i hge
  obtain rfl:i=l.length:=by omega
  have key:∀ v ∈ l,(-100000≤v.1∧v.1≤100000) ∧ -100000≤v.2∧v.2≤100000:=by
   intro v hv
   obtain ⟨j,hj,e⟩:=List.getElem_of_mem hv
   have:=hall j hj
   rw [List.getD_eq_getElem?_getD,List.getElem?_eq_getElem hj,Option.getD_some,e] at this
   exact this
  refine go (hz fun v hv => ?_) fun v hv=>key v (hmem v hv)
  have:=key v hv
  unfold partOk
  omega
theorem l_TopWavesAgree {x:Ln} {h:Int} {g:Ga} (hb:LnB x):Contract Tryz.prog 8 [lnI x,.int .i64 h,gI g] (.bool true):=by
 refine contract_run Tryz.func8 k8 rfl ?_
 simp only [body8,b8,res8,b8k17,b8k18,b8k19,gI,vaE, ↓reduceIte,reduceCtorEq,Nat.reduceEqDiff,Nat.reduceAdd,Nat.reduceMul,Nat.reduceSub,Nat.reduceLeDiff,Nat.reduceBEq,Int.reduceToNat,Int.reduceLE,Int.reduceLT,Int.reduceEq,Int.reduceNe,di]
 refine calls_of l_waveShown ?_; simp only [vaE,res8,b8k17,b8k18,b8k19, ↓reduceIte,reduceCtorEq,Nat.reduceEqDiff,Nat.reduceAdd,Nat.reduceMul,Nat.reduceSub,Nat.reduceLeDiff,Nat.reduceBEq,Int.reduceToNat,Int.reduceLE,Int.reduceLT,Int.reduceEq,Int.reduceNe,di]
 by_cases hf:¬ (4:Int)<(x.pp.length:Int)∧¬ (4:Int)<(x.ar.length:Int)
 rotate_left
 ·rw [if_neg hf]
  trivial
 rw [if_pos hf]
 have hx:Few x:=⟨by omega,by omega⟩
 refine calls_of (r_LineErr hx) ?_; simp only [vaE,res8,b8k17,b8k18,b8k19, ↓reduceIte,reduceCtorEq,Nat.reduceEqDiff,Nat.reduceAdd,Nat.reduceMul,Nat.reduceSub,Nat.reduceLeDiff,Nat.reduceBEq,Int.reduceToNat,Int.reduceLE,Int.reduceLT,Int.reduceEq,Int.reduceNe,di]
 by_cases h0:(chkL x).2=0
 rotate_left
 ·simp only [h0,vaE, ↓reduceIte,reduceCtorEq,Nat.reduceEqDiff,Nat.reduceAdd,Nat.reduceMul,Nat.reduceSub,Nat.reduceLeDiff,Nat.reduceBEq,Int.reduceToNat,Int.reduceLE,Int.reduceLT,Int.reduceEq,Int.reduceNe,di]
 simp only [h0,vaE, ↓reduceIte,reduceCtorEq,Nat.reduceEqDiff,Nat.reduceAdd,Nat.reduceMul,Nat.reduceSub,Nat.reduceLeDiff,Nat.reduceBEq,Int.reduceToNat,Int.reduceLE,Int.reduceLT,Int.reduceEq,Int.reduceNe,di]
 have hxo:=chkL_ok.1 h0
 refine calls_of r_QuarterErr ?_; simp only [vaE,res8,b8k17,b8k18,b8k19, ↓reduceIte,reduceCtorEq,Nat.reduceEqDiff,Nat.reduceAdd,Nat.reduceMul,Nat.reduceSub,Nat.reduceLeDiff,Nat.reduceBEq,Int.reduceToNat,Int.reduceLE,Int.reduceLT,Int.reduceEq,Int.reduceNe,di]
 by_cases hq:quarterE h=0
 rotate_left
 ·simp only [hq,vaE, ↓reduceIte,reduceCtorEq,Nat.reduceEqDiff,Nat.reduceAdd,Nat.reduceMul,Nat.reduceSub,Nat.reduceLeDiff,Nat.reduceBEq,Int.reduceToNat,Int.reduceLE,Int.reduceLT,Int.reduceEq,Int.reduceNe,di]
 simp only [hq,vaE, ↓reduceIte,reduceCtorEq,Nat.reduceEqDiff,Nat.reduceAdd,Nat.reduceMul,Nat.reduceSub,Nat.reduceLeDiff,Nat.reduceBEq,Int.reduceToNat,Int.reduceLE,Int.reduceLT,Int.reduceEq,Int.reduceNe,di]
 have q5:=r_FlowErr (g:=g)
 simp only [gI] at q5
 refine calls_of q5 ?_; simp only [vaE,res8,b8k17,b8k18,b8k19, ↓reduceIte,reduceCtorEq,Nat.reduceEqDiff,Nat.reduceAdd,Nat.reduceMul,Nat.reduceSub,Nat.reduceLeDiff,Nat.reduceBEq,Int.reduceToNat,Int.reduceLE,Int.reduceLT,Int.reduceEq,Int.reduceNe,di]
 by_cases hg:flowE g=0
 rotate_left
 ·simp only [hg,vaE, ↓reduceIte,reduceCtorEq,Nat.reduceEqDiff,Nat.reduceAdd,Nat.reduceMul,Nat.reduceSub,Nat.reduceLeDiff,Nat.reduceBEq,Int.reduceToNat,Int.reduceLE,Int.reduceLT,Int.reduceEq,Int.reduceNe,di]
 simp only [hg,vaE, ↓reduceIte,reduceCtorEq,Nat.reduceEqDiff,Nat.reduceAdd,Nat.reduceMul,Nat.reduceSub,Nat.reduceLeDiff,Nat.reduceBEq,Int.reduceToNat,Int.reduceLE,Int.reduceLT,Int.reduceEq,Int.reduceNe,di]
 have hh : 0≤h∧h≤3:=by
  unfold quarterE at hq
  split at hq
  ·assumption
  ·cases hq
 have c1:=w_ParseLine (s:=fmtLn x) (fmt_size hxo hb)
 rw [parse_line hxo] at c1
 refine calls_of (r_CopyLine hx) ?_; simp only [vaE,res8,b8k17,b8k18,b8k19, ↓reduceIte,reduceCtorEq,Nat.reduceEqDiff,Nat.reduceAdd,Nat.reduceMul,Nat.reduceSub,Nat.reduceLeDiff,Nat.reduceBEq,Int.reduceToNat,Int.reduceLE,Int.reduceLT,Int.reduceEq,Int.reduceNe,di]
 refine calls_of (w_FormatLine hx hb) ?_; simp only [vaE,res8,b8k17,b8k18,b8k19, ↓reduceIte,reduceCtorEq,Nat.reduceEqDiff,Nat.reduceAdd,Nat.reduceMul,Nat.reduceSub,Nat.reduceLeDiff,Nat.reduceBEq,Int.reduceToNat,Int.reduceLE,Int.reduceLT,Int.reduceEq,Int.reduceNe,di]
 refine calls_of c1 ?_; simp only [vaE,res8,b8k17,b8k18,b8k19, ↓reduceIte,reduceCtorEq,Nat.reduceEqDiff,Nat.reduceAdd,Nat.reduceMul,Nat.reduceSub,Nat.reduceLeDiff,Nat.reduceBEq,Int.reduceToNat,Int.reduceLE,Int.reduceLT,Int.reduceEq,Int.reduceNe,di]
 refine calls_of (r_SameLine (a:=x) (b:=x) hx) ?_; simp only [vaE,res8,b8k17,b8k18,b8k19, ↓reduceIte,reduceCtorEq,Nat.reduceEqDiff,Nat.reduceAdd,Nat.reduceMul,Nat.reduceSub,Nat.reduceLeDiff,Nat.reduceBEq,Int.reduceToNat,Int.reduceLE,Int.reduceLT,Int.reduceEq,Int.reduceNe,di]
 have how:=opn_ok hxo
 have hm:matE x h=0:=fstE_zero.2 ⟨h0,hq⟩
 have e0:osE x h g=0:=fstE_zero.2 ⟨hm,hg⟩
 have z0:osZ x h g=styF (opn x) h (2 * g.1,2 * g.2):=by unfold osZ; rw [if_pos e0]
 have fo:=few_osZ (x:=x) (h:=h) (g:=g)
 have q1:=w_SteadyOf (h:=h) (g:=g) hx
 rw [z0] at fo
 rw [z0,e0] at q1
 have e1:=fwA_len (h:=h) (f:=(2 * g.1,2 * g.2)) how (opn x).pp.length (Nat.le_refl _)
 have e2:=bwA_len (h:=h) (f:=(2 * g.1,2 * g.2)) how (opn x).pp.length (Nat.le_refl _)
 have e3:=leA_len (x:=opn x) (h:=h) (f:=(2 * g.1,2 * g.2)) (opn x).ar.length
 rw [List.take_of_length_le (Nat.le_refl _)] at e1 e2
 have lF:((styF (opn x) h (2 * g.1,2 * g.2)).F.length:Int)=(opn x).n:=e1
 have lB:((styF (opn x) h (2 * g.1,2 * g.2)).B.length:Int)=(opn x).n:=e2
 have lL:(styF (opn x) h (2 * g.1,2 * g.2)).L.length=x.ar.length:=e3
 have hlen:=hxo.len
 have nb:=how.nb
 obtain ⟨m,hmm⟩ : ∃ m,x.pp.length=m+1:=⟨x.pp.length - 1,by omega⟩
 obtain ⟨N,hN⟩ : ∃ N,(opn x).n.toNat=N+1:=⟨(opn x).n.toNat - 1,by omega⟩
 have go:=tw_amps hx hxo hmm hN hh (g:=g) (fun hp=>by
  unfold stdE
  rw [fstE_zero,fstE_zero,fstE_zero,prtE_zero]
  refine ⟨⟨⟨h0,hq⟩,?_⟩,hp⟩
  have eo:opnE x=opn x:=by unfold opnE; rw [if_pos h0]
  unfold shpE
  rw [eo,if_pos ⟨⟨lF,lB⟩,lL⟩]) fo
 generalize styF (opn x) h (2 * g.1,2 * g.2)=u at *
 simp only [gI,stdI] at q1
 simp only [stdC] at go
 refine calls_of (r_CopyLine hx) ?_; simp only [vaE,res8,b8k17,b8k18,b8k19, ↓reduceIte,reduceCtorEq,Nat.reduceEqDiff,Nat.reduceAdd,Nat.reduceMul,Nat.reduceSub,Nat.reduceLeDiff,Nat.reduceBEq,Int.reduceToNat,Int.reduceLE,Int.reduceLT,Int.reduceEq,Int.reduceNe,di]
 refine calls_of q1 ?_; simp only [vaE,res8,b8k17,b8k18,b8k19, ↓reduceIte,reduceCtorEq,Nat.reduceEqDiff,Nat.reduceAdd,Nat.reduceMul,Nat.reduceSub,Nat.reduceLeDiff,Nat.reduceBEq,Int.reduceToNat,Int.reduceLE,Int.reduceLT,Int.reduceEq,Int.reduceNe,di]
 refine calls_of (r_Cells hxo) ?_; simp only [vaE,res8,b8k17,b8k18,b8k19, ↓reduceIte,reduceCtorEq,Nat.reduceEqDiff,Nat.reduceAdd,Nat.reduceMul,Nat.reduceSub,Nat.reduceLeDiff,Nat.reduceBEq,Int.reduceToNat,Int.reduceLE,Int.reduceLT,Int.reduceEq,Int.reduceNe,di]
 rw [if_pos ⟨by omega,by omega,by omega⟩]
 exact go
end Go.DI


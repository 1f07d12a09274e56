/- Rules as strings. No condition. -/
import Derived.Test.YtaphhpphfffnfaaGreatDoorTwGj
import Derived.Test.YtaphhpphfffnfaaGreatDoorTwGe
import Derived.Test.YtaphhpphfffnfaaGreatDoorProg
import Derived.KernelRfl
import Derived.Test.YtaphhpphfffnfaaGreatDoorTwGg
import Derived.Lib.ItoaLen
/- The reference's functions of rules, states and steps, and the laws of steps, as data. No condition. -/
namespace Go.DI
open Go.Proofs Go.RowKit
def b24k0:DCode :=
 (.region [⟨some 18,.mov,[.t 4],none,[]⟩,
 ⟨some 19,(.bin .add),[.t 18,.c (.int .i64 1)],none,[0]⟩,
 ⟨some 4,.mov,[.t 19],none,[1,0,1]⟩] false)
def b24k1:DCode :=
 (.seq
 (.block 1
 (.seq
 (.region [⟨some 20,.movv,[.t 3],none,[]⟩,
 ⟨some 21,.mov,[.t 4],none,[]⟩,
 ⟨some 22,(.iaddr 1),[.t 20,.t 21],none,[0,1]⟩,
 ⟨some 23,(.load false 1),[.t 22],none,[2]⟩,
 ⟨some 24,.call,[.f 47,.t 23,.c (.int .i64 0),.c (.int .i64 100)],none,[3]⟩,
 ⟨some 25,(.un .not),[.t 24],none,[4]⟩] false)
 (.cond (.t 25)
 (.seq
 (.region [⟨some 2,.mov,[.c (.int .i64 2)],none,[]⟩] false)
 .ret)
 .skip)))
 (.keep [1,3,4] [1] b24k0))
def b24l0:DCode:=.keep [1,3,4] [1]
 (.seq
 (.seq
 (.region [⟨some 14,.mov,[.t 4],none,[]⟩,
 ⟨some 15,.movv,[.t 3],none,[]⟩,
 ⟨some 16,.len,[.t 15],none,[1]⟩,
 ⟨some 17,(.bin .lss),[.t 14,.t 16],none,[0,2]⟩] false)
 (.cond (.t 17)
 .skip
 (.exit 0)))
 (.keep [1,3,4] [1] b24k1))
def b24k2:DCode :=
 (.seq
 (.region [⟨some 2,.mov,[.c (.int .i64 0)],none,[]⟩] false)
 .ret)
def b24k3:DCode :=
 (.seq
 (.seq
 (.region [⟨some 43,(.faddr 2 true 2),[.t 1],none,[]⟩,
 ⟨some 44,(.faddr 1 false 1),[.t 43],none,[0]⟩,
 ⟨some 45,(.load false 1),[.t 44],none,[1]⟩,
 ⟨some 46,(.bin .mul),[.c (.int .i64 2001),.t 45],none,[2]⟩,
 ⟨some 47,(.faddr 4 false 1),[.t 1],none,[]⟩,
 ⟨some 48,(.load false 1),[.t 47],none,[4]⟩,
 ⟨some 49,(.bin .mul),[.c (.int .i64 4001),.t 48],none,[5]⟩,
 ⟨some 50,(.bin .add),[.t 46,.t 49],none,[3,6]⟩,
 ⟨some 51,(.bin .add),[.t 50,.c (.int .i64 2000)],none,[7]⟩,
 ⟨some 52,(.faddr 0 false 1),[.t 1],none,[]⟩,
 ⟨some 53,(.load false 1),[.t 52],none,[9]⟩,
 ⟨some 54,(.bin .mul),[.c (.int .i64 1000),.t 53],none,[10]⟩,
 ⟨some 55,(.bin .gtr),[.t 51,.t 54],none,[8,11]⟩] false)
 (.cond (.t 55)
 (.seq
 (.region [⟨some 2,.mov,[.c (.int .i64 13)],none,[]⟩] false)
 .ret)
 .skip))
 (.keep [] [] b24k2))
def b24k4:DCode :=
 (.seq
 (.seq
 (.region [⟨some 36,(.faddr 2 true 2),[.t 1],none,[]⟩,
 ⟨some 37,(.faddr 0 false 1),[.t 36],none,[0]⟩,
 ⟨some 38,(.load false 1),[.t 37],none,[1]⟩,
 ⟨some 39,(.faddr 2 true 2),[.t 1],none,[]⟩,
 ⟨some 40,(.faddr 1 false 1),[.t 39],none,[3]⟩,
 ⟨some 41,(.load false 1),[.t 40],none,[4]⟩,
 ⟨some 42,(.bin .gtr),[.t 38,.t 41],none,[2,5]⟩] false)
 (.cond (.t 42)
 (.seq
 (.region [⟨some 2,.mov,[.c (.int .i64 9)],none,[]⟩] false)
 .ret)
 .skip))
 (.keep [1] [1] b24k3))
def b24k5:DCode :=
 (.seq
 (.seq
 (.region [⟨some 26,(.faddr 0 false 1),[.t 1],none,[]⟩,
 ⟨some 27,(.load false 1),[.t 26],none,[0]⟩,
 ⟨some 28,.call,[.f 47,.t 27,.c (.int .i64 1),.c (.int .i64 1000)],none,[1]⟩,
 ⟨some 29,(.un .not),[.t 28],none,[2]⟩,
 ⟨some 30,.mov,[.t 29],none,[3,2]⟩,
 ⟨some 31,(.faddr 1 false 1),[.t 1],(some (30,false)),[4]⟩,
 ⟨some 32,(.load false 1),[.t 31],(some (30,false)),[5,4]⟩,
 ⟨some 33,.call,[.f 47,.t 32,.c (.int .i64 1),.c (.int .i64 1000)],(some (30,false)),[6,4,4]⟩,
 ⟨some 34,(.un .not),[.t 33],(some (30,false)),[7,4]⟩,
 ⟨some 35,.pick,[.t 30,.c (.bool true),.t 34],none,[4,8]⟩] false)
 (.cond (.t 35)
 (.seq
 (.region [⟨some 2,.mov,[.c (.int .i64 2)],none,[]⟩] false)
 .ret)
 .skip))
 (.keep [1] [1] b24k4))
def b24:DCode :=
 (.seq
 (.region [⟨some 1,.box,[.t 0],none,[]⟩,
 ⟨some 2,.mov,[.c (.int .i64 0)],none,[]⟩] false)
 (.seq
 (.region [⟨some 5,(.faddr 2 true 2),[.t 1],none,[]⟩,
 ⟨some 6,(.faddr 0 false 1),[.t 5],none,[0]⟩,
 ⟨some 7,(.load false 1),[.t 6],none,[1]⟩,
 ⟨some 8,(.faddr 2 true 2),[.t 1],none,[]⟩,
 ⟨some 9,(.faddr 1 false 1),[.t 8],none,[3]⟩,
 ⟨some 10,(.load false 1),[.t 9],none,[4]⟩,
 ⟨some 11,(.faddr 4 false 1),[.t 1],none,[]⟩,
 ⟨some 12,(.load false 1),[.t 11],none,[6]⟩,
 ⟨some 13,(.bsl 1),[.t 7,.t 10,.t 12],none,[2,5,7]⟩,
 ⟨some 3,.movv,[.t 13],none,[8,0,1,2,3,4,5,6,7,8]⟩] false)
 (.seq
 (.seq
 (.region [⟨some 4,.mov,[.c (.int .i64 0)],none,[]⟩] false)
 (.block 0
 (.loop b24l0)))
 (.keep [1] [1] b24k5))))
def d24:DFn:=⟨1,56,[.tmp 2],b24⟩
theorem body24:d24.body=b24:=rfl
theorem res24:d24.res=[.tmp 2]:=rfl
theorem k24:chkFn Tryz.prog Tryz.f24 d24=true:=by kernel_rfl
def b80k0:DCode :=
 (.seq
 (.region [⟨some 2,.mov,[.c (.int .i64 0)],none,[]⟩] false)
 .ret)
def b80:DCode :=
 (.seq
 (.region [⟨some 1,.box,[.t 0],none,[]⟩,
 ⟨some 2,.mov,[.c (.int .i64 0)],none,[]⟩] false)
 (.seq
 (.seq
 (.region [⟨some 3,(.faddr 0 false 1),[.t 1],none,[]⟩,
 ⟨some 4,(.load false 1),[.t 3],none,[0]⟩,
 ⟨some 5,.call,[.f 47,.t 4,.c (.int .i64 (-100000)),.c (.int .i64 100000)],none,[1]⟩,
 ⟨some 6,(.un .not),[.t 5],none,[2]⟩,
 ⟨some 7,.mov,[.t 6],none,[3,2]⟩,
 ⟨some 8,(.faddr 1 false 1),[.t 1],(some (7,false)),[4]⟩,
 ⟨some 9,(.load false 1),[.t 8],(some (7,false)),[5,4]⟩,
 ⟨some 10,.call,[.f 47,.t 9,.c (.int .i64 (-1000)),.c (.int .i64 1000)],(some (7,false)),[6,4,4]⟩,
 ⟨some 11,(.un .not),[.t 10],(some (7,false)),[7,4]⟩,
 ⟨some 12,.pick,[.t 7,.c (.bool true),.t 11],none,[4,8]⟩] false)
 (.cond (.t 12)
 (.seq
 (.region [⟨some 2,.mov,[.c (.int .i64 2)],none,[]⟩] false)
 .ret)
 .skip))
 (.keep [] [] b80k0)))
def d80:DFn:=⟨1,13,[.tmp 2],b80⟩
theorem body80:d80.body=b80:=rfl
theorem res80:d80.res=[.tmp 2]:=rfl
theorem k80:chkFn Tryz.prog Tryz.f80 d80=true:=by kernel_rfl
def b168k0:DCode :=
 (.seq
 (.region [⟨some 2,.mov,[.c (.int .i64 0)],none,[]⟩] false)
 .ret)
def b168:DCode :=
 (.seq
 (.region [⟨some 2,.mov,[.c (.int .i64 0)],none,[]⟩] false)
 (.seq
 (.seq
 (.region [⟨some 3,.mov,[.t 0],none,[]⟩,
 ⟨some 4,.call,[.f 47,.t 3,.c (.int .i64 0),.c (.int .i64 1000)],none,[0]⟩,
 ⟨some 5,(.un .not),[.t 4],none,[1]⟩] false)
 (.cond (.t 5)
 (.seq
 (.region [⟨some 2,.mov,[.c (.int .i64 2)],none,[]⟩] false)
 .ret)
 .skip))
 (.keep [] [] b168k0)))
def d168:DFn:=⟨1,6,[.tmp 2],b168⟩
theorem body168:d168.body=b168:=rfl
theorem res168:d168.res=[.tmp 2]:=rfl
theorem k168:chkFn Tryz.prog Tryz.f168 d168=true:=by kernel_rfl
def b228k0:DCode :=
 (.seq
 (.region [⟨some 4,.mov,[.c (.int .i64 0)],none,[]⟩] false)
 .ret)
def b228k1:DCode :=
 (.seq
 (.seq
 (.region [⟨some 21,(.faddr 0 false 1),[.t 2],none,[]⟩,
 ⟨some 22,(.load false 1),[.t 21],none,[0]⟩,
 ⟨some 23,(.faddr 1 false 1),[.t 2],none,[]⟩,
 ⟨some 24,(.load false 1),[.t 23],none,[2]⟩,
 ⟨some 25,(.bin .gtr),[.t 22,.t 24],none,[1,3]⟩] false)
 (.cond (.t 25)
 (.seq
 (.region [⟨some 4,.mov,[.c (.int .i64 9)],none,[]⟩] false)
 .ret)
 .skip))
 (.keep [] [] b228k0))
def b228:DCode :=
 (.seq
 (.region [⟨some 2,.box,[.t 0],none,[]⟩,
 ⟨some 4,.mov,[.c (.int .i64 0)],none,[]⟩] false)
 (.seq
 (.seq
 (.region [⟨some 5,(.faddr 0 false 1),[.t 2],none,[]⟩,
 ⟨some 6,(.load false 1),[.t 5],none,[0]⟩,
 ⟨some 7,.mov,[.t 1],none,[]⟩,
 ⟨some 8,(.un .neg),[.t 7],none,[2]⟩,
 ⟨some 9,.mov,[.t 1],none,[]⟩,
 ⟨some 10,.call,[.f 47,.t 6,.t 8,.t 9],none,[1,3,4]⟩,
 ⟨some 11,(.un .not),[.t 10],none,[5]⟩,
 ⟨some 12,.mov,[.t 11],none,[6,5]⟩,
 ⟨some 13,(.faddr 1 false 1),[.t 2],(some (12,false)),[7]⟩,
 ⟨some 14,(.load false 1),[.t 13],(some (12,false)),[8,7]⟩,
 ⟨some 15,.mov,[.t 1],(some (12,false)),[7]⟩,
 ⟨some 16,(.un .neg),[.t 15],(some (12,false)),[10,7]⟩,
 ⟨some 17,.mov,[.t 1],(some (12,false)),[7]⟩,
 ⟨some 18,.call,[.f 47,.t 14,.t 16,.t 17],(some (12,false)),[9,11,12,7,7]⟩,
 ⟨some 19,(.un .not),[.t 18],(some (12,false)),[13,7]⟩,
 ⟨some 20,.pick,[.t 12,.c (.bool true),.t 19],none,[7,14]⟩] false)
 (.cond (.t 20)
 (.seq
 (.region [⟨some 4,.mov,[.c (.int .i64 2)],none,[]⟩] false)
 .ret)
 .skip))
 (.keep [2] [2] b228k1)))
def d228:DFn:=⟨2,26,[.tmp 4],b228⟩
theorem body228:d228.body=b228:=rfl
theorem res228:d228.res=[.tmp 4]:=rfl
theorem k228:chkFn Tryz.prog Tryz.f228 d228=true:=by kernel_rfl
def b157k0:DCode :=
 (.seq
 (.region [⟨some 10,(.faddr 2 true 2),[.t 1],none,[]⟩,
 ⟨some 11,(.load true 2),[.t 10],none,[0]⟩,
 ⟨some 12,.call,[.f 228,.t 11,.c (.int .i64 1000)],none,[1]⟩,
 ⟨some 2,.mov,[.t 12],none,[2,2,0,1,2]⟩] false)
 .ret)
def b157:DCode :=
 (.seq
 (.region [⟨some 1,.box,[.t 0],none,[]⟩,
 ⟨some 2,.mov,[.c (.int .i64 0)],none,[]⟩] false)
 (.seq
 (.seq
 (.region [⟨some 4,(.faddr 0 true 2),[.t 1],none,[]⟩,
 ⟨some 5,(.load true 2),[.t 4],none,[0]⟩,
 ⟨some 6,.call,[.f 228,.t 5,.c (.int .i64 100000)],none,[1]⟩,
 ⟨some 3,.mov,[.t 6],none,[2,2,0,1,2]⟩] false)
 (.seq
 (.region [⟨some 7,.mov,[.t 3],none,[]⟩,
 ⟨some 8,(.bin .neq),[.t 7,.c (.int .i64 0)],none,[0]⟩] false)
 (.cond (.t 8)
 (.seq
 (.region [⟨some 9,.mov,[.t 3],none,[]⟩,
 ⟨some 2,.mov,[.t 9],none,[0,0]⟩] false)
 .ret)
 .skip)))
 (.keep [1] [1] b157k0)))
def d157:DFn:=⟨1,13,[.tmp 2],b157⟩
theorem body157:d157.body=b157:=rfl
theorem res157:d157.res=[.tmp 2]:=rfl
theorem k157:chkFn Tryz.prog Tryz.f157 d157=true:=by kernel_rfl
end Go.DI

/- Contracts: the reference's rules, states and steps. No condition. -/
set_option linter.unusedSimpArgs false
namespace Go.DI
open Go.Proofs Go.RowKit Sg
theorem c_Wi {x lo hi:Int}:Contract Tryz.prog 47 [.int .i64 x,.int .i64 lo,.int .i64 hi] (.bool (decide (Wi x lo hi))):=c_Within
theorem r_StateErr {s:Sta}:Contract Tryz.prog 80 [ssI s] (.int .i64 (stateErr s)):=by
 unfold stateErr
 refine contract_run Tryz.func80 k80 rfl ?_
 simp only [body80,b80,res80,b80k0,ruI,ssI,sbI,spI,swI,scI,stI,srI,saI,snI, ↓reduceIte,reduceCtorEq,Nat.reduceEqDiff,Nat.reduceAdd,Nat.reduceMul,Nat.reduceSub,Nat.reduceLeDiff,Nat.reduceBEq,Int.reduceToNat,Int.reduceLE,Int.reduceLT,Int.reduceEq,Int.reduceNe,di]
 refine calls_of c_Wi ?_; simp only [ruI,ssI,sbI,spI,swI,scI,stI,srI,saI,snI,res80,b80k0, ↓reduceIte,reduceCtorEq,Nat.reduceEqDiff,Nat.reduceAdd,Nat.reduceMul,Nat.reduceSub,Nat.reduceLeDiff,Nat.reduceBEq,Int.reduceToNat,Int.reduceLE,Int.reduceLT,Int.reduceEq,Int.reduceNe,di]
 split
 ·rename_i h
  refine calls_of c_Wi ?_; simp only [ruI,ssI,sbI,spI,swI,scI,stI,srI,saI,snI,res80,b80k0, ↓reduceIte,reduceCtorEq,Nat.reduceEqDiff,Nat.reduceAdd,Nat.reduceMul,Nat.reduceSub,Nat.reduceLeDiff,Nat.reduceBEq,Int.reduceToNat,Int.reduceLE,Int.reduceLT,Int.reduceEq,Int.reduceNe,di]
  split
  ·rename_i h2; rw [if_pos ⟨h,h2⟩]
  ·rename_i h2; rw [if_neg (fun k=>h2 k.2)]
 ·rename_i h
  rw [if_neg (fun k=>h k.1)]
theorem r_LoadErr {n:Int}:Contract Tryz.prog 168 [.int .i64 n] (.int .i64 (loadErr n)):=by
 unfold loadErr
 refine contract_run Tryz.func168 k168 rfl ?_
 simp only [body168,b168,res168,b168k0,ruI,ssI,sbI,spI,swI,scI,stI,srI,saI,snI, ↓reduceIte,reduceCtorEq,Nat.reduceEqDiff,Nat.reduceAdd,Nat.reduceMul,Nat.reduceSub,Nat.reduceLeDiff,Nat.reduceBEq,Int.reduceToNat,Int.reduceLE,Int.reduceLT,Int.reduceEq,Int.reduceNe,di]
 refine calls_of c_Wi ?_; simp only [ruI,ssI,sbI,spI,swI,scI,stI,srI,saI,snI,res168,b168k0, ↓reduceIte,reduceCtorEq,Nat.reduceEqDiff,Nat.reduceAdd,Nat.reduceMul,Nat.reduceSub,Nat.reduceLeDiff,Nat.reduceBEq,Int.reduceToNat,Int.reduceLE,Int.reduceLT,Int.reduceEq,Int.reduceNe,di]
 split <;> rfl
theorem r_RulesErr {r:Ru}:Contract Tryz.prog 24 [ruI r] (.int .i64 (rulesErr r)):=by
 refine contract_run Tryz.func24 k24 rfl ?_
 simp only [body24,b24,res24,b24k0,b24k1,b24k2,b24k3,b24k4,b24k5,ruI,ssI,sbI,spI,swI,scI,stI,srI,saI,snI, ↓reduceIte,reduceCtorEq,Nat.reduceEqDiff,Nat.reduceAdd,Nat.reduceMul,Nat.reduceSub,Nat.reduceLeDiff,Nat.reduceBEq,Int.reduceToNat,Int.reduceLE,Int.reduceLT,Int.reduceEq,Int.reduceNe,di]
 refine loop_keep (α:=Nat) rfl (fun i=>3 - i) (fun i=>i≤3∧∀ j,j<i→Wi ([r.lo,r.hi,r.T].getD j 0) 0 100)
  (fun i=>[(1,.ref 1 0),(3,.imm (snI [r.lo,r.hi,r.T])),(4,.imm (.int .i64 i))]) (fun _=>[(1,.box [.imm (.int .i64 r.I),.imm (.int .i64 r.A),.imm (.int .i64 r.lo),.imm (.int .i64 r.hi),.imm (.int .i64 r.T)])]) 0 ⟨by omega,fun j hj=>by omega⟩ (by simp only [ruI,ssI,sbI,spI,swI,scI,stI,srI,saI,snI, ↓reduceIte,reduceCtorEq,Nat.reduceEqDiff,Nat.reduceAdd,Nat.reduceMul,Nat.reduceSub,Nat.reduceLeDiff,Nat.reduceBEq,Int.reduceToNat,Int.reduceLE,Int.reduceLT,Int.reduceEq,Int.reduceNe,di] <;> rfl) ?_
 intro i ⟨hi,he⟩ ih
 simp only [res24,b24k0,b24k1,b24k2,b24k3,b24k4,b24k5,ruI,ssI,sbI,spI,swI,scI,stI,srI,saI,snI, ↓reduceIte,reduceCtorEq,Nat.reduceEqDiff,Nat.reduceAdd,Nat.reduceMul,Nat.reduceSub,Nat.reduceLeDiff,Nat.reduceBEq,Int.reduceToNat,Int.reduceLE,Int.reduceLT,Int.reduceEq,Int.reduceNe,di]
 split
 ·rename_i h
  have h3:i=0∨i=1∨i=2:=by simp at h; omega
  repeat (refine And.intro (by omega) ?_)
  have step:∀ (x:Int) (j:Nat),[r.lo,r.hi,r.T].getD j 0=x→j<3→¬ Wi x 0 100→rulesErr r=2:=by
   intro x j hx hj hw
   unfold rulesErr
   rw [if_pos]
   have:j=0∨j=1∨j=2:=by omega
   rcases this with rfl | rfl | rfl <;> simp only [List.getD_cons_zero,List.getD_cons_succ] at hx <;> subst hx <;> simp only [hw,and_false,false_and,not_false_eq_true]
  have go:∀ x,[r.lo,r.hi,r.T].getD i 0=x→Wi x 0 100→∀ j,j<i+1→Wi ([r.lo,r.hi,r.T].getD j 0) 0 100:=by
   intro x hx hw j hj
   by_cases e:j=i
   ·subst e; rw [hx]; exact hw
   ·exact he j (by omega)
  have fin:∀ x,[r.lo,r.hi,r.T].getD i 0=x→i<3→[IV.int IntKind.i64 r.lo,IV.int IntKind.i64 r.hi,IV.int IntKind.i64 r.T].getD i IV.nilp = .int .i64 x:=by
   intro x hx hj
   rcases h3 with rfl | rfl | rfl <;> simp only [List.getD_cons_zero,List.getD_cons_succ] at hx ⊢ <;> rw [hx]
  have hi3:i<3:=by omega
  generalize hx:[r.lo,r.hi,r.T].getD i 0=x at step go fin
  rw [fin x rfl hi3]
  simp only [ruI,ssI,sbI,spI,swI,scI,stI,srI,saI,snI, ↓reduceIte,reduceCtorEq,Nat.reduceEqDiff,Nat.reduceAdd,Nat.reduceMul,Nat.reduceSub,Nat.reduceLeDiff,Nat.reduceBEq,Int.reduceToNat,Int.reduceLE,Int.reduceLT,Int.reduceEq,Int.reduceNe,di]
  refine calls_of c_Wi ?_; simp only [ruI,ssI,sbI,spI,swI,scI,stI,srI,saI,snI,res24,b24k0,b24k1,b24k2,b24k3,b24k4,b24k5, ↓reduceIte,reduceCtorEq,Nat.reduceEqDiff,Nat.reduceAdd,Nat.reduceMul,Nat.reduceSub,Nat.reduceLeDiff,Nat.reduceBEq,Int.reduceToNat,Int.reduceLE,Int.reduceLT,Int.reduceEq,Int.reduceNe,di]
  by_cases hw:Wi x 0 100
  ·simp only [hw,decide_true,ruI,ssI,sbI,spI,swI,scI,stI,srI,saI,snI, ↓reduceIte,reduceCtorEq,Nat.reduceEqDiff,Nat.reduceAdd,Nat.reduceMul,Nat.reduceSub,Nat.reduceLeDiff,Nat.reduceBEq,Int.reduceToNat,Int.reduceLE,Int.reduceLT,Int.reduceEq,Int.reduceNe,di]
   rw [wrap64 (by omega) (by omega)]
   exact ih (i+1) _ _ (by omega) ⟨by omega,go x rfl hw⟩ (by simp only [ruI,ssI,sbI,spI,swI,scI,stI,srI,saI,snI, ↓reduceIte,reduceCtorEq,Nat.reduceEqDiff,Nat.reduceAdd,Nat.reduceMul,Nat.reduceSub,Nat.reduceLeDiff,Nat.reduceBEq,Int.reduceToNat,Int.reduceLE,Int.reduceLT,Int.reduceEq,Int.reduceNe,di] <;> rfl)
  ·simp only [hw,decide_false,ruI,ssI,sbI,spI,swI,scI,stI,srI,saI,snI, ↓reduceIte,reduceCtorEq,Nat.reduceEqDiff,Nat.reduceAdd,Nat.reduceMul,Nat.reduceSub,Nat.reduceLeDiff,Nat.reduceBEq,Int.reduceToNat,Int.reduceLE,Int.reduceLT,Int.reduceEq,Int.reduceNe,di]
   rw [step x i hx hi3 hw]
 ·rename_i h
  have h3:i=3:=by simp at h; omega
  subst h3
  have e0:=he 0 (by omega)
  have e1:=he 1 (by omega)
  have e2:=he 2 (by omega)
  simp only [List.getD_cons_zero,List.getD_cons_succ] at e0 e1 e2
  unfold rulesErr
  refine calls_of c_Wi ?_; simp only [ruI,ssI,sbI,spI,swI,scI,stI,srI,saI,snI,res24,b24k0,b24k1,b24k2,b24k3,b24k4,b24k5, ↓reduceIte,reduceCtorEq,Nat.reduceEqDiff,Nat.reduceAdd,Nat.reduceMul,Nat.reduceSub,Nat.reduceLeDiff,Nat.reduceBEq,Int.reduceToNat,Int.reduceLE,Int.reduceLT,Int.reduceEq,Int.reduceNe,di]
  by_cases hI:Wi r.I 1 1000
  case neg=>simp only [hI,false_and,not_false_eq_true,ruI,ssI,sbI,spI,swI,scI,stI,srI,saI,snI, ↓reduceIte,reduceCtorEq,Nat.reduceEqDiff,Nat.reduceAdd,Nat.reduceMul,Nat.reduceSub,Nat.reduceLeDiff,Nat.reduceBEq,Int.reduceToNat,Int.reduceLE,Int.reduceLT,Int.reduceEq,Int.reduceNe,di]
  simp only [hI,decide_true,ruI,ssI,sbI,spI,swI,scI,stI,srI,saI,snI, ↓reduceIte,reduceCtorEq,Nat.reduceEqDiff,Nat.reduceAdd,Nat.reduceMul,Nat.reduceSub,Nat.reduceLeDiff,Nat.reduceBEq,Int.reduceToNat,Int.reduceLE,Int.reduceLT,Int.reduceEq,Int.reduceNe,di]
  refine calls_of c_Wi ?_; simp only [ruI,ssI,sbI,spI,swI,scI,stI,srI,saI,snI,res24,b24k0,b24k1,b24k2,b24k3,b24k4,b24k5, ↓reduceIte,reduceCtorEq,Nat.reduceEqDiff,Nat.reduceAdd,Nat.reduceMul,Nat.reduceSub,Nat.reduceLeDiff,Nat.reduceBEq,Int.reduceToNat,Int.reduceLE,Int.reduceLT,Int.reduceEq,Int.reduceNe,di]
  by_cases hA:Wi r.A 1 1000
  case neg=>simp only [hA,false_and,and_false,not_false_eq_true,decide_false,ruI,ssI,sbI,spI,swI,scI,stI,srI,saI,snI, ↓reduceIte,reduceCtorEq,Nat.reduceEqDiff,Nat.reduceAdd,Nat.reduceMul,Nat.reduceSub,Nat.reduceLeDiff,Nat.reduceBEq,Int.reduceToNat,Int.reduceLE,Int.reduceLT,Int.reduceEq,Int.reduceNe,di]
  simp only [hA,e0,e1,e2,decide_true,and_self,not_true_eq_false,ruI,ssI,sbI,spI,swI,scI,stI,srI,saI,snI, ↓reduceIte,reduceCtorEq,Nat.reduceEqDiff,Nat.reduceAdd,Nat.reduceMul,Nat.reduceSub,Nat.reduceLeDiff,Nat.reduceBEq,Int.reduceToNat,Int.reduceLE,Int.reduceLT,Int.reduceEq,Int.reduceNe,di]
  unfold Wi at e0 e1 e2 hI hA
  simp only [show IntKind.wrap .i64 (2001 * r.hi)=2001 * r.hi from wrap64 (by omega) (by omega)]
  simp only [show IntKind.wrap .i64 (4001 * r.T)=4001 * r.T from wrap64 (by omega) (by omega)]
  simp only [show IntKind.wrap .i64 (1000 * r.I)=1000 * r.I from wrap64 (by omega) (by omega)]
  simp only [show IntKind.wrap .i64 (2001 * r.hi+4001 * r.T)=2001 * r.hi+4001 * r.T from wrap64 (by omega) (by omega)]
  simp only [show IntKind.wrap .i64 (2001 * r.hi+4001 * r.T+2000)=2001 * r.hi+4001 * r.T+2000 from wrap64 (by omega) (by omega)]
  split
  ·rfl
  ·split <;> rfl
end Go.DI

/- The functions of the strings of rules, as data. No condition. -/
namespace Go.DI
open Go.Proofs Go.RowKit
def b20k0:DCode :=
 (.seq
 (.block 1
 (.seq
 (.region [⟨some 21,(.index 5 1 false),[.t 18,.t 19],none,[]⟩,
 ⟨some 5,.mov,[.t 21],none,[0,0]⟩] false)
 (.region [⟨some 22,.mov,[.t 3],none,[]⟩,
 ⟨some 23,.mov,[.t 5],none,[]⟩,
 ⟨some 24,.call,[.f 95,.t 23],none,[1]⟩,
 ⟨some 25,(.bsl 1),[.t 24],none,[2]⟩,
 ⟨some 26,(.append 1 16 false),[.t 22,.t 25],none,[0,3,2]⟩,
 ⟨some 3,.mov,[.t 26],none,[4,4,0,1,2,3,4]⟩] false)))
 (.region [⟨some 27,(.bin .add),[.t 19,.c (.int .i64 1)],none,[]⟩,
 ⟨some 19,.mov,[.t 27],none,[0]⟩] false))
def b20l0:DCode:=.keep [3,18,19] [3,26]
 (.seq
 (.region [⟨some 20,(.bin .lss),[.t 19,.c (.int .i64 5)],none,[]⟩] false)
 (.seq
 (.cond (.t 20)
 .skip
 (.exit 0))
 (.keep [3,18,19] [3,26] b20k0)))
def b20k1:DCode :=
 (.seq
 (.region [⟨some 28,.movv,[.t 3],none,[]⟩,
 ⟨some 29,.call,[.f 96,.t 28,.c (.str ⟨#[32]⟩)],none,[0]⟩,
 ⟨some 2,.mov,[.t 29],none,[1,1,0,1]⟩] false)
 .ret)
def b20:DCode :=
 (.seq
 (.region [⟨some 1,.box,[.t 0],none,[]⟩,
 ⟨some 2,.mov,[.c (.str ⟨#[]⟩)],none,[]⟩] false)
 (.seq
 (.region [⟨some 3,(.ntok 1),[.c (.slc 1 [])],none,[]⟩] false)
 (.seq
 (.seq
 (.region [⟨some 6,(.faddr 0 false 1),[.t 1],none,[]⟩,
 ⟨some 7,(.load false 1),[.t 6],none,[0]⟩,
 ⟨some 8,(.faddr 1 false 1),[.t 1],none,[]⟩,
 ⟨some 9,(.load false 1),[.t 8],none,[2]⟩,
 ⟨some 10,(.faddr 2 true 2),[.t 1],none,[]⟩,
 ⟨some 11,(.faddr 0 false 1),[.t 10],none,[4]⟩,
 ⟨some 12,(.load false 1),[.t 11],none,[5]⟩,
 ⟨some 13,(.faddr 2 true 2),[.t 1],none,[]⟩,
 ⟨some 14,(.faddr 1 false 1),[.t 13],none,[7]⟩,
 ⟨some 15,(.load false 1),[.t 14],none,[8]⟩,
 ⟨some 16,(.faddr 4 false 1),[.t 1],none,[]⟩,
 ⟨some 17,(.load false 1),[.t 16],none,[10]⟩,
 ⟨some 18,(.build [(.imm (.int .i64 0)),(.imm (.int .i64 0)),(.imm (.int .i64 0)),(.imm (.int .i64 0)),(.imm (.int .i64 0))] [(0,1),(1,1),(2,1),(3,1),(4,1)]),[.t 7,.t 9,.t 12,.t 15,.t 17],none,[1,3,6,9,11]⟩,
 ⟨some 19,.mov,[.c (.int .i64 0)],none,[]⟩] false)
 (.block 0
 (.loop b20l0)))
 (.keep [3] [3,26] b20k1))))
def d20:DFn:=⟨1,30,[.tmp 2],b20⟩
theorem body20:d20.body=b20:=rfl
theorem res20:d20.res=[.tmp 2]:=rfl
theorem k20:chkFn Tryz.prog Tryz.f20 d20=true:=by kernel_rfl
def b21k0:DCode :=
 (.region [⟨some 56,.mov,[.t 7],none,[]⟩,
 ⟨some 57,(.iarr 5 1 false),[.t 5,.t 56],none,[0]⟩,
 ⟨some 58,(.load false 1),[.t 57],none,[1]⟩,
 ⟨some 59,.mov,[.t 9],none,[]⟩,
 ⟨some 60,.nilck,[.t 58],none,[2,0,1,2,3]⟩,
 ⟨none,(.store 1),[.t 60,.t 59],none,[4,3,0,1,2,3]⟩] false)
def b21k1:DCode :=
 (.region [⟨some 61,(.bin .add),[.t 28,.c (.int .i64 1)],none,[]⟩,
 ⟨some 28,.mov,[.t 61],none,[0]⟩] false)
def b21k2:DCode :=
 (.seq
 (.block 1
 (.seq
 (.region [⟨some 30,.mov,[.t 28],none,[]⟩,
 ⟨some 31,(.iaddr 1),[.t 26,.t 28],none,[]⟩,
 ⟨some 32,(.load false 1),[.t 31],none,[1]⟩,
 ⟨some 7,.mov,[.t 30],none,[0,0,1,2]⟩,
 ⟨some 8,.mov,[.t 32],none,[2,3,0,1,2,3]⟩] false)
 (.seq
 (.region [⟨some 34,.mov,[.t 8],none,[]⟩,
 ⟨some 35,.call,[.f 109,.t 34],none,[0]⟩,
 ⟨some 33,.mov,[.t 35],none,[1]⟩,
 ⟨some 36,(.ext 0),[.t 33],none,[2]⟩,
 ⟨some 37,(.ext 1),[.t 33],none,[2]⟩,
 ⟨some 9,.mov,[.t 36],none,[3,1,0,1,2,3]⟩,
 ⟨some 10,.mov,[.t 37],none,[4,5,0,1,2,3,4,5]⟩] false)
 (.seq
 (.seq
 (.region [⟨some 38,.mov,[.t 10],none,[]⟩,
 ⟨some 39,(.inil true),[.t 38,.c .nili],none,[0]⟩,
 ⟨some 40,.mov,[.t 39],none,[1]⟩,
 ⟨some 41,.mov,[.t 9],(some (40,false)),[2]⟩,
 ⟨some 42,(.bin .lss),[.t 41,.c (.int .i64 0)],(some (40,false)),[3,2]⟩,
 ⟨some 43,.pick,[.t 40,.c (.bool true),.t 42],none,[2,4]⟩,
 ⟨some 44,.mov,[.t 43],none,[5,2]⟩,
 ⟨some 45,.mov,[.t 9],(some (44,false)),[6]⟩,
 ⟨some 46,.call,[.f 95,.t 45],(some (44,false)),[7,6,6]⟩,
 ⟨some 47,.mov,[.t 8],(some (44,false)),[6]⟩,
 ⟨some 48,(.bin .neq),[.t 46,.t 47],(some (44,false)),[8,9,6]⟩,
 ⟨some 49,.pick,[.t 44,.c (.bool true),.t 48],none,[6,10]⟩,
 ⟨some 50,.mov,[.t 49],none,[11,8]⟩,
 ⟨some 51,.mov,[.t 8],(some (50,false)),[12]⟩,
 ⟨some 52,.slen,[.t 51],(some (50,false)),[13,12]⟩,
 ⟨some 53,(.bin .gtr),[.t 52,.c (.int .i64 4)],(some (50,false)),[14,12]⟩,
 ⟨some 54,.pick,[.t 50,.c (.bool true),.t 53],none,[12,15]⟩] false)
 (.cond (.t 54)
 (.seq
 (.region [⟨some 55,(.build [(.imm (.int .i64 0)),(.imm (.int .i64 0)),(.imm (.int .i64 0)),(.imm (.int .i64 0)),(.imm (.int .i64 0))] []),[],none,[]⟩,
 ⟨none,(.store 5),[.t 2,.t 55],none,[0,0]⟩,
 ⟨some 3,.mov,[.c (.int .i64 7)],none,[1,0,1]⟩] false)
 .ret)
 .skip))
 (.keep [2,4,5,7,9,26,27,28] [2,4,5] b21k0)))))
 (.keep [2,4,5,26,27,28] [2,4,5] b21k1))
def b21l0:DCode:=.keep [2,4,5,26,27,28] [2,4,5]
 (.seq
 (.region [⟨some 29,(.bin .lss),[.t 28,.t 27],none,[]⟩] false)
 (.seq
 (.cond (.t 29)
 .skip
 (.exit 0))
 (.keep [2,4,5,26,27,28] [2,4,5] b21k2)))
def b21k3:DCode :=
 (.seq
 (.region [⟨some 68,(.load true 5),[.t 4],none,[]⟩,
 ⟨none,(.store 5),[.t 2,.t 68],none,[0,0]⟩,
 ⟨some 3,.mov,[.c (.int .i64 0)],none,[1,0,1]⟩] false)
 .ret)
def b21k4:DCode :=
 (.seq
 (.seq
 (.region [⟨some 62,(.load true 5),[.t 4],none,[]⟩,
 ⟨some 63,.call,[.f 110,.t 62],none,[0]⟩,
 ⟨some 11,.mov,[.t 63],none,[1,1,0,1]⟩] false)
 (.seq
 (.region [⟨some 64,.mov,[.t 11],none,[]⟩,
 ⟨some 65,(.bin .neq),[.t 64,.c (.int .i64 0)],none,[0]⟩] false)
 (.cond (.t 65)
 (.seq
 (.region [⟨some 66,(.build [(.imm (.int .i64 0)),(.imm (.int .i64 0)),(.imm (.int .i64 0)),(.imm (.int .i64 0)),(.imm (.int .i64 0))] []),[],none,[]⟩,
 ⟨some 67,.mov,[.t 11],none,[]⟩,
 ⟨none,(.store 5),[.t 2,.t 66],none,[0,0]⟩,
 ⟨some 3,.mov,[.t 67],none,[1,2,0,1,2]⟩] false)
 .ret)
 .skip)))
 (.keep [2,4] [2,4] b21k3))
def b21k5:DCode :=
 (.seq
 (.seq
 (.region [⟨some 26,.movv,[.t 6],none,[]⟩,
 ⟨some 27,.len,[.t 26],none,[0]⟩,
 ⟨some 28,.mov,[.c (.int .i64 0)],none,[]⟩] false)
 (.block 0
 (.loop b21l0)))
 (.keep [2,4] [2,4] b21k4))
def b21:DCode :=
 (.seq
 (.region [⟨some 2,(.alloc [(.imm (.int .i64 0)),(.imm (.int .i64 0)),(.imm (.int .i64 0)),(.imm (.int .i64 0)),(.imm (.int .i64 0))]),[],none,[]⟩,
 ⟨some 3,.mov,[.c (.int .i64 0)],none,[]⟩] false)
 (.seq
 (.region [⟨some 4,(.alloc [(.imm (.int .i64 0)),(.imm (.int .i64 0)),(.imm (.int .i64 0)),(.imm (.int .i64 0)),(.imm (.int .i64 0))]),[],none,[]⟩] false)
 (.seq
 (.region [⟨some 12,(.faddr 0 false 1),[.t 4],none,[]⟩,
 ⟨some 13,(.faddr 1 false 1),[.t 4],none,[]⟩,
 ⟨some 14,(.faddr 2 true 2),[.t 4],none,[]⟩,
 ⟨some 15,(.faddr 0 false 1),[.t 14],none,[2]⟩,
 ⟨some 16,(.faddr 2 true 2),[.t 4],none,[]⟩,
 ⟨some 17,(.faddr 1 false 1),[.t 16],none,[4]⟩,
 ⟨some 18,(.faddr 4 false 1),[.t 4],none,[]⟩,
 ⟨some 19,(.build [(.imm .nilp),(.imm .nilp),(.imm .nilp),(.imm .nilp),(.imm .nilp)] [(0,1),(1,1),(2,1),(3,1),(4,1)]),[.t 12,.t 13,.t 15,.t 17,.t 18],none,[0,1,3,5,6]⟩,
 ⟨some 5,(.alloc [(.imm .nilp),(.imm .nilp),(.imm .nilp),(.imm .nilp),(.imm .nilp)]),[],none,[]⟩,
 ⟨none,(.store 5),[.t 5,.t 19],none,[8,7,0,1,2,3,4,5,6,7,8]⟩] false)
 (.seq
 (.region [⟨some 20,.mov,[.t 0],none,[]⟩,
 ⟨some 21,.call,[.f 97,.t 20,.c (.str ⟨#[32]⟩)],none,[0]⟩,
 ⟨some 6,.movv,[.t 21],none,[1,1,0,1]⟩] false)
 (.seq
 (.seq
 (.region [⟨some 22,.movv,[.t 6],none,[]⟩,
 ⟨some 23,.len,[.t 22],none,[0]⟩,
 ⟨some 24,(.bin .neq),[.t 23,.c (.int .i64 5)],none,[1]⟩] false)
 (.cond (.t 24)
 (.seq
 (.region [⟨some 25,(.build [(.imm (.int .i64 0)),(.imm (.int .i64 0)),(.imm (.int .i64 0)),(.imm (.int .i64 0)),(.imm (.int .i64 0))] []),[],none,[]⟩,
 ⟨none,(.store 5),[.t 2,.t 25],none,[0,0]⟩,
 ⟨some 3,.mov,[.c (.int .i64 7)],none,[1,0,1]⟩] false)
 .ret)
 .skip))
 (.keep [2,4,5,6] [2,4,5] b21k5))))))
def d21:DFn:=⟨1,69,[.cell 2 true 5,.tmp 3],b21⟩
theorem body21:d21.body=b21:=rfl
theorem res21:d21.res=[.cell 2 true 5,.tmp 3]:=rfl
theorem k21:chkFn Tryz.prog Tryz.f21 d21=true:=by kernel_rfl
def b4k0:DCode :=
 (.seq
 (.region [⟨some 47,.mov,[.t 5],none,[]⟩,
 ⟨some 48,.call,[.f 21,.t 47],none,[0]⟩,
 ⟨some 46,.mov,[.t 48],none,[1]⟩,
 ⟨some 49,(.ext 0),[.t 46],none,[2]⟩,
 ⟨some 50,(.ext 1),[.t 46],none,[2]⟩,
 ⟨some 10,(.alloc [(.imm (.int .i64 0)),(.imm (.int .i64 0)),(.imm (.int .i64 0)),(.imm (.int .i64 0)),(.imm (.int .i64 0))]),[],none,[]⟩,
 ⟨none,(.store 5),[.t 10,.t 49],none,[5,3,1,0,1,2,3,5]⟩,
 ⟨some 11,.mov,[.t 50],none,[4,6,0,1,2,3,4,5,6]⟩] false)
 (.seq
 (.region [⟨some 51,.mov,[.t 11],none,[]⟩,
 ⟨some 52,(.bin .eql),[.t 51,.c (.int .i64 0)],none,[0]⟩,
 ⟨some 53,.mov,[.t 52],none,[1]⟩,
 ⟨some 54,(.load true 5),[.t 10],(some (53,true)),[2]⟩,
 ⟨some 55,(.load true 5),[.t 2],(some (53,true)),[2]⟩,
 ⟨some 56,(.eqs [false,false,false,false,false] false),[.t 54,.t 55],(some (53,true)),[3,4,2]⟩,
 ⟨some 57,.pick,[.t 53,.t 56,.c (.bool false)],none,[2,5]⟩,
 ⟨some 4,.mov,[.t 57],none,[6,2,0,1,2,3,4,5,6]⟩] false)
 .ret))
def b4k1:DCode :=
 (.seq
 (.seq
 (.region [⟨some 43,(.load true 5),[.t 2],none,[]⟩,
 ⟨some 44,.call,[.f 24,.t 43],none,[0]⟩,
 ⟨some 45,(.bin .neq),[.t 44,.c (.int .i64 0)],none,[1]⟩] false)
 (.cond (.t 45)
 (.seq
 (.region [⟨some 4,.mov,[.c (.bool true)],none,[]⟩] false)
 .ret)
 .skip))
 (.keep [2,5] [2] b4k0))
def b4k2:DCode :=
 (.seq
 (.region [⟨some 17,(.load true 5),[.t 2],none,[]⟩,
 ⟨some 18,.call,[.f 20,.t 17],none,[0]⟩,
 ⟨some 5,.mov,[.t 18],none,[1,1,0,1]⟩] false)
 (.seq
 (.region [⟨some 20,.mov,[.t 1],none,[]⟩,
 ⟨some 21,.call,[.f 21,.t 20],none,[0]⟩,
 ⟨some 19,.mov,[.t 21],none,[1]⟩,
 ⟨some 22,(.ext 0),[.t 19],none,[2]⟩,
 ⟨some 23,(.ext 1),[.t 19],none,[2]⟩,
 ⟨some 6,(.alloc [(.imm (.int .i64 0)),(.imm (.int .i64 0)),(.imm (.int .i64 0)),(.imm (.int .i64 0)),(.imm (.int .i64 0))]),[],none,[]⟩,
 ⟨none,(.store 5),[.t 6,.t 22],none,[5,3,1,0,1,2,3,5]⟩,
 ⟨some 7,.mov,[.t 23],none,[4,6,0,1,2,3,4,5,6]⟩] false)
 (.seq
 (.region [⟨some 25,.mov,[.t 1],none,[]⟩,
 ⟨some 26,.call,[.f 22,.t 25],none,[0]⟩,
 ⟨some 24,.mov,[.t 26],none,[1]⟩,
 ⟨some 27,(.ext 0),[.t 24],none,[2]⟩,
 ⟨some 28,(.ext 1),[.t 24],none,[2]⟩,
 ⟨some 8,(.alloc [(.imm (.int .i64 0)),(.imm (.int .i64 0)),(.imm (.int .i64 0)),(.imm (.int .i64 0)),(.imm (.int .i64 0))]),[],none,[]⟩,
 ⟨none,(.store 5),[.t 8,.t 27],none,[5,3,1,0,1,2,3,5]⟩,
 ⟨some 9,.mov,[.t 28],none,[4,6,0,1,2,3,4,5,6]⟩] false)
 (.seq
 (.seq
 (.region [⟨some 29,.mov,[.t 5],none,[]⟩,
 ⟨some 30,(.load true 5),[.t 2],none,[]⟩,
 ⟨some 31,.call,[.f 23,.t 30],none,[1]⟩,
 ⟨some 32,(.bin .neq),[.t 29,.t 31],none,[0,2]⟩,
 ⟨some 33,.mov,[.t 32],none,[3,2]⟩,
 ⟨some 34,.mov,[.t 7],(some (33,false)),[4]⟩,
 ⟨some 35,.mov,[.t 9],(some (33,false)),[4]⟩,
 ⟨some 36,(.bin .neq),[.t 34,.t 35],(some (33,false)),[5,6,4]⟩,
 ⟨some 37,.pick,[.t 33,.c (.bool true),.t 36],none,[4,7]⟩,
 ⟨some 38,.mov,[.t 37],none,[8,4]⟩,
 ⟨some 39,(.load true 5),[.t 6],(some (38,false)),[9]⟩,
 ⟨some 40,(.load true 5),[.t 8],(some (38,false)),[9]⟩,
 ⟨some 41,(.eqs [false,false,false,false,false] true),[.t 39,.t 40],(some (38,false)),[10,11,9]⟩,
 ⟨some 42,.pick,[.t 38,.c (.bool true),.t 41],none,[9,12]⟩] false)
 (.cond (.t 42)
 (.seq
 (.region [⟨some 4,.mov,[.c (.bool false)],none,[]⟩] false)
 .ret)
 .skip))
 (.keep [2,5] [2] b4k1)))))
def b4k3:DCode :=
 (.seq
 (.seq
 (.region [⟨some 14,.mov,[.t 1],none,[]⟩,
 ⟨some 15,.slen,[.t 14],none,[0]⟩,
 ⟨some 16,(.bin .gtr),[.t 15,.c (.int .i64 60)],none,[1]⟩] false)
 (.cond (.t 16)
 (.seq
 (.region [⟨some 4,.mov,[.c (.bool true)],none,[]⟩] false)
 .ret)
 .skip))
 (.keep [1,2] [2] b4k2))
def b4:DCode :=
 (.seq
 (.region [⟨some 2,.box,[.t 0],none,[]⟩,
 ⟨some 4,.mov,[.c (.bool false)],none,[]⟩] false)
 (.seq
 (.seq
 (.region [⟨some 12,.call,[.f 19],none,[]⟩,
 ⟨some 13,(.un .not),[.t 12],none,[0]⟩] false)
 (.cond (.t 13)
 (.seq
 (.region [⟨some 4,.mov,[.c (.bool false)],none,[]⟩] false)
 .ret)
 .skip))
 (.keep [1,2] [2] b4k3)))
def d4:DFn:=⟨2,58,[.tmp 4],b4⟩
theorem k4:chkFn Tryz.prog Tryz.f4 d4=true:=by kernel_rfl
end Go.DI

/- Contracts: rules as strings, in the program and in the reference. No condition. -/
set_option linter.unusedSimpArgs false
set_option maxRecDepth 100000
namespace Go.DI
open Go.Proofs Go.RowKit Go.Lib Sg
def In64 (n:Int):Prop := -9223372036854775808≤n∧n≤9223372036854775807
structure RuB (r:Ru):Prop where
 I:In64 r.I
 A:In64 r.A
 lo:In64 r.lo
 hi:In64 r.hi
 T:In64 r.T
def valsR (r:Ru):List Int:=[r.I,r.A,r.lo,r.hi,r.T]
def fmtR (r:Ru):ByteArray:=bs (Lib.join ((valsR r).map itoa) [32])
theorem valsR_in {r:Ru} (h:RuB r) {i:Nat}:In64 ((valsR r).getD i 0):=by
 obtain ⟨h1,h2,h3,h4,h5⟩:=h
 match i with
 | 0=>exact h1
 | 1=>exact h2
 | 2=>exact h3
 | 3=>exact h4
 | 4=>exact h5
 | i+5=>exact ⟨by show _≤(0:Int); decide,by show (0:Int)≤_; decide⟩
theorem itoa_len {n:Int} (h:In64 n):(itoa n).length≤21:=itoa_length_le n h.1 h.2
theorem fmt_sum {r:Ru}:bs (itoa r.I ++ [32] ++ itoa r.A ++ [32] ++ itoa r.lo ++ [32] ++ itoa r.hi ++ [32] ++ itoa r.T)=fmtR r:=by
 unfold fmtR valsR
 simp [Lib.join,List.intercalate]
theorem valsR_cell {r:Ru} {i:Nat} (h:i<5):[IV.int .i64 r.I,.int .i64 r.A,.int .i64 r.lo,.int .i64 r.hi,.int .i64 r.T][i * 1]? = some (.int .i64 ((valsR r).getD i 0)):=by
 match i,h with
 | 0,_=>rfl
 | 1,_=>rfl
 | 2,_=>rfl
 | 3,_=>rfl
 | 4,_=>rfl
theorem valsR_take {r:Ru} {i:Nat} (h:i<5):(valsR r).take (i+1)=(valsR r).take i ++ [(valsR r).getD i 0]:=by
 rw [List.take_add_one,List.getElem?_eq_getElem (show i<(valsR r).length from h),List.getD_eq_getElem?_getD,List.getElem?_eq_getElem (show i<(valsR r).length from h)]
 rfl
theorem s_FormatRules {r:Ru} (h:RuB r):Contract Tryz.prog 20 [ruI r] (.str (fmtR r)):=by
 refine contract_run Tryz.func20 k20 rfl ?_
 simp only [body20,b20,res20,b20k0,b20k1,ruI,ssI,sbI,spI,swI,scI,stI,srI,saI,snI, ↓reduceIte,reduceCtorEq,Nat.reduceEqDiff,Nat.reduceAdd,Nat.reduceMul,Nat.reduceSub,Nat.reduceLeDiff,Nat.reduceBEq,Int.reduceToNat,Int.reduceLE,Int.reduceLT,Int.reduceEq,Int.reduceNe,di]
 refine loop_keep (α:=Nat) rfl (fun i=>5 - i) (fun i=>i≤5)
  (fun i=>[(3,.own 3),(18,.imm (.agg [.int .i64 r.I,.int .i64 r.A,.int .i64 r.lo,.int .i64 r.hi,.int .i64 r.T])),(19,.imm (.int .i64 i))])
  (fun i=>[(3,.tok 1 (((valsR r).take i).map fun n=>.str (itoaB n)))]) 0 (Nat.zero_le _) (by simp only [ruI,ssI,sbI,spI,swI,scI,stI,srI,saI,snI, ↓reduceIte,reduceCtorEq,Nat.reduceEqDiff,Nat.reduceAdd,Nat.reduceMul,Nat.reduceSub,Nat.reduceLeDiff,Nat.reduceBEq,Int.reduceToNat,Int.reduceLE,Int.reduceLT,Int.reduceEq,Int.reduceNe,di] <;> rfl) ?_
 intro i hi ih
 simp only [res20,b20k0,b20k1,ruI,ssI,sbI,spI,swI,scI,stI,srI,saI,snI, ↓reduceIte,reduceCtorEq,Nat.reduceEqDiff,Nat.reduceAdd,Nat.reduceMul,Nat.reduceSub,Nat.reduceLeDiff,Nat.reduceBEq,Int.reduceToNat,Int.reduceLE,Int.reduceLT,Int.reduceEq,Int.reduceNe,di]
 split
 ·rename_i hlt
  refine ⟨hlt,?_⟩
  have hlt:i<5:=by omega
  rw [valsR_cell hlt]
  have hb:=valsR_in h (i:=i)
  simp only [ruI,ssI,sbI,spI,swI,scI,stI,srI,saI,snI, ↓reduceIte,reduceCtorEq,Nat.reduceEqDiff,Nat.reduceAdd,Nat.reduceMul,Nat.reduceSub,Nat.reduceLeDiff,Nat.reduceBEq,Int.reduceToNat,Int.reduceLE,Int.reduceLT,Int.reduceEq,Int.reduceNe,di]
  refine calls_of (z_Itoa hb.1 hb.2) ?_; simp only [ruI,ssI,sbI,spI,swI,scI,stI,srI,saI,snI,res20,b20k0,b20k1, ↓reduceIte,reduceCtorEq,Nat.reduceEqDiff,Nat.reduceAdd,Nat.reduceMul,Nat.reduceSub,Nat.reduceLeDiff,Nat.reduceBEq,Int.reduceToNat,Int.reduceLE,Int.reduceLT,Int.reduceEq,Int.reduceNe,di]
  have hl5:(List.take i (valsR r)).length≤5:=by rw [List.length_take]; exact Nat.le_trans (Nat.min_le_left _ _) (by omega)
  refine ⟨by omega,by omega,?_⟩
  refine ih (i+1) _ _ (by omega) (by omega) ?_
  rw [valsR_take hlt,List.map_append,wrapS (n:=(i:Int)+1) (by omega) (by omega)]
  simp only [ruI,ssI,sbI,spI,swI,scI,stI,srI,saI,snI, ↓reduceIte,reduceCtorEq,Nat.reduceEqDiff,Nat.reduceAdd,Nat.reduceMul,Nat.reduceSub,Nat.reduceLeDiff,Nat.reduceBEq,Int.reduceToNat,Int.reduceLE,Int.reduceLT,Int.reduceEq,Int.reduceNe,di] <;> rfl
 ·rename_i hge
  have:i=5:=by omega
  subst this
  have hl:∀ x ∈ valsR r,(itoa x).length≤21:=by
   intro x hx
   simp only [valsR,List.mem_cons,List.not_mem_nil,or_false] at hx
   rcases hx with rfl | rfl | rfl | rfl | rfl
   ·exact itoa_len h.I
   ·exact itoa_len h.A
   ·exact itoa_len h.lo
   ·exact itoa_len h.hi
   ·exact itoa_len h.T
  have e:IV.slc 1 (List.map (fun n=>IV.str (itoaB n)) (List.take 5 (valsR r)))=strsI ((valsR r).map itoaB):=by
   unfold strsI
   rw [List.map_map]; rfl
  have e2:((valsR r).map itoaB).map (·.data.toList)=(valsR r).map itoa:=by rw [List.map_map]; rfl
  have hj:bs (Lib.join (((valsR r).map itoaB).map (·.data.toList)) [32])=fmtR r:=by rw [e2]; rfl
  rw [e]
  have hsz:(fmtR r).size≤109:=by
   rw [← fmt_sum,bs_size]
   simp only [List.length_append,List.length_singleton]
   have l1:=itoa_len h.I
   have l2:=itoa_len h.A
   have l3:=itoa_len h.lo
   have l4:=itoa_len h.hi
   have l5:=itoa_len h.T
   omega
  have c:=z_Join (l:=(valsR r).map itoaB) (p:=⟨#[32]⟩) (by simp [valsR]) (by
   have:=congrArg ByteArray.size hj
   rw [bs_size] at this
   show (Lib.join (((valsR r).map itoaB).map (·.data.toList)) [32]).length≤_
   omega)
  rw [show bs (Lib.join (((valsR r).map itoaB).map (·.data.toList)) (ByteArray.mk #[32]).data.toList)=fmtR r from hj] at c
  refine calls_of c ?_; simp only [ruI,ssI,sbI,spI,swI,scI,stI,srI,saI,snI,res20,b20k0,b20k1, ↓reduceIte,reduceCtorEq,Nat.reduceEqDiff,Nat.reduceAdd,Nat.reduceMul,Nat.reduceSub,Nat.reduceLeDiff,Nat.reduceBEq,Int.reduceToNat,Int.reduceLE,Int.reduceLT,Int.reduceEq,Int.reduceNe,di]
def pvA (w:List ByteArray) (i:Nat):Option Int:=okW 4 (w.getD i default)
def pvD (w:List ByteArray) (i:Nat):Int:=(pvA w i).getD 0
def cellsR (w:List ByteArray) (i:Nat):List DV:=[.imm (.int .i64 (if 0<i then pvD w 0 else 0)),.imm (.int .i64 (if 1<i then pvD w 1 else 0)),.imm (.int .i64 (if 2<i then pvD w 2 else 0)),.imm (.int .i64 (if 3<i then pvD w 3 else 0)),.imm (.int .i64 (if 4<i then pvD w 4 else 0))]
def rulesOf (w:List ByteArray):Ru:=⟨pvD w 0,pvD w 1,pvD w 2,pvD w 3,pvD w 4⟩
def allOk (w:List ByteArray):Nat→Bool
 | 0=>true
 | i+1=>allOk w i && (pvA w i).isSome
theorem allOk_no {w:List ByteArray} {i:Nat} (h:pvA w i=none):∀ n,i<n→allOk w n=false
 | 0,hi=>absurd hi (Nat.not_lt_zero _)
 | n+1,hi=>by
  unfold allOk
  by_cases e:i=n
  ·rw [← e,h]; simp
  ·rw [allOk_no h n (by omega)]; rfl
def parseW (w:List ByteArray):Ru × Int:=if w.length=5∧allOk w 5 then (if rulesErr (rulesOf w)=0 then (rulesOf w,0) else (⟨0,0,0,0,0⟩,rulesErr (rulesOf w))) else (⟨0,0,0,0,0⟩,7)
theorem s_ParseRules {s:ByteArray} (hs:s.size≤1000000):Contract Tryz.prog 21 [.str s] (.tup [ruI (parseW (cutS 32 s)).1,.int .i64 (parseW (cutS 32 s)).2]):=by
 refine contract_run Tryz.func21 k21 rfl ?_
 simp only [body21,b21,res21,b21k0,b21k1,b21k2,b21k3,b21k4,b21k5,ruI,ssI,sbI,spI,swI,scI,stI,srI,saI,snI, ↓reduceIte,reduceCtorEq,Nat.reduceEqDiff,Nat.reduceAdd,Nat.reduceMul,Nat.reduceSub,Nat.reduceLeDiff,Nat.reduceBEq,Int.reduceToNat,Int.reduceLE,Int.reduceLT,Int.reduceEq,Int.reduceNe,di]
 refine calls_of (z_Split (s:=s) (c:=32) (by omega)) ?_; simp only [ruI,ssI,sbI,spI,swI,scI,stI,srI,saI,snI,res21,b21k0,b21k1,b21k2,b21k3,b21k4,b21k5, ↓reduceIte,reduceCtorEq,Nat.reduceEqDiff,Nat.reduceAdd,Nat.reduceMul,Nat.reduceSub,Nat.reduceLeDiff,Nat.reduceBEq,Int.reduceToNat,Int.reduceLE,Int.reduceLT,Int.reduceEq,Int.reduceNe,di]
 have hsz:=fun i=>cutS_size (c:=32) (s:=s) (i:=i)
 have hln:=cutS_len (c:=32) (s:=s)
 generalize cutS 32 s=w at hsz hln ⊢
 simp only [strsI,List.length_map,ruI,ssI,sbI,spI,swI,scI,stI,srI,saI,snI, ↓reduceIte,reduceCtorEq,Nat.reduceEqDiff,Nat.reduceAdd,Nat.reduceMul,Nat.reduceSub,Nat.reduceLeDiff,Nat.reduceBEq,Int.reduceToNat,Int.reduceLE,Int.reduceLT,Int.reduceEq,Int.reduceNe,di]
 by_cases hw:w.length=5
 case neg =>
  rw [if_neg (by omega)]
  unfold parseW
  rw [if_neg (fun e=>hw e.1)]
  rfl
 rw [if_pos (by omega)]
 refine loop_keep (α:=Nat) rfl (fun i=>5 - i) (fun i=>i≤5∧allOk w i)
  (fun i=>[(2,.ref 2 0),(4,.ref 4 0),(5,.ref 5 0),(26,.imm (.slc 1 (w.map fun s=>.str s))),(27,.imm (.int .i64 5)),(28,.imm (.int .i64 i))])
  (fun i=>[(2,.box [.imm (.int .i64 0),.imm (.int .i64 0),.imm (.int .i64 0),.imm (.int .i64 0),.imm (.int .i64 0)]),(4,.box (cellsR w i)),(5,.box [.ref 4 0,.ref 4 1,.ref 4 2,.ref 4 3,.ref 4 4])]) 0 ⟨Nat.zero_le _,rfl⟩ (by simp only [cellsR,hw,ruI,ssI,sbI,spI,swI,scI,stI,srI,saI,snI, ↓reduceIte,reduceCtorEq,Nat.reduceEqDiff,Nat.reduceAdd,Nat.reduceMul,Nat.reduceSub,Nat.reduceLeDiff,Nat.reduceBEq,Int.reduceToNat,Int.reduceLE,Int.reduceLT,Int.reduceEq,Int.reduceNe,di] <;> rfl) ?_
 rintro i ⟨hi,hall⟩ ih
 simp only [cellsR,res21,b21k0,b21k1,b21k2,b21k3,b21k4,b21k5,ruI,ssI,sbI,spI,swI,scI,stI,srI,saI,snI, ↓reduceIte,reduceCtorEq,Nat.reduceEqDiff,Nat.reduceAdd,Nat.reduceMul,Nat.reduceSub,Nat.reduceLeDiff,Nat.reduceBEq,Int.reduceToNat,Int.reduceLE,Int.reduceLT,Int.reduceEq,Int.reduceNe,di]
 split
 ·rename_i hlt
  refine ⟨by omega,?_⟩
  have hlt:i<5:=by omega
  have hx:=hsz i
  have hpv:pvA w i=okW 4 (w.getD i default):=rfl
  generalize w.getD i default=x at hx hpv ⊢
  have c:=z_Atoi (s:=x) (by omega)
  unfold atoiI at c
  have bad:okW 4 x=none→parseW w=(⟨0,0,0,0,0⟩,7):=fun e=>by
   unfold parseW
   rw [if_neg]
   rintro ⟨_,e2⟩
   rw [allOk_no (hpv.trans e) 5 hlt] at e2
   cases e2
  cases ha:atoiAll x.data.toList with
  | range =>
   rw [ha] at c
   refine calls_of c ?_; simp only [ruI,ssI,sbI,spI,swI,scI,stI,srI,saI,snI,res21,b21k0,b21k1,b21k2,b21k3,b21k4,b21k5, ↓reduceIte,reduceCtorEq,Nat.reduceEqDiff,Nat.reduceAdd,Nat.reduceMul,Nat.reduceSub,Nat.reduceLeDiff,Nat.reduceBEq,Int.reduceToNat,Int.reduceLE,Int.reduceLT,Int.reduceEq,Int.reduceNe,di]
   rw [bad (okW_no (by decide) (fun v e=>by rw [ha] at e; cases e))]
  | ok v =>
   rw [ha] at c
   refine calls_of c ?_; simp only [ruI,ssI,sbI,spI,swI,scI,stI,srI,saI,snI,res21,b21k0,b21k1,b21k2,b21k3,b21k4,b21k5, ↓reduceIte,reduceCtorEq,Nat.reduceEqDiff,Nat.reduceAdd,Nat.reduceMul,Nat.reduceSub,Nat.reduceLeDiff,Nat.reduceBEq,Int.reduceToNat,Int.reduceLE,Int.reduceLT,Int.reduceEq,Int.reduceNe,di]
   obtain ⟨b0,b1⟩:=Lib.atoiAll_bounds ha
   have same:∀ v',atoiAll x.data.toList = .ok v'→v'=v:=fun v' e=>by rw [ha] at e; injection e with e; exact e.symm
   split
   ·rename_i h0
    rw [bad (okW_no (by decide) (fun v' e p _ _=>by have:=same v' e; omega))]
   rename_i h0
   refine calls_of (z_Itoa b0 b1) ?_; simp only [ruI,ssI,sbI,spI,swI,scI,stI,srI,saI,snI,res21,b21k0,b21k1,b21k2,b21k3,b21k4,b21k5, ↓reduceIte,reduceCtorEq,Nat.reduceEqDiff,Nat.reduceAdd,Nat.reduceMul,Nat.reduceSub,Nat.reduceLeDiff,Nat.reduceBEq,Int.reduceToNat,Int.reduceLE,Int.reduceLT,Int.reduceEq,Int.reduceNe,di]
   by_cases hc:itoaB v=x∧¬ (4:Int)<(x.size:Int)
   case neg =>
    rw [if_neg (fun e=>hc ⟨str_beq.1 e.1,e.2⟩),bad (okW_no (by decide) (fun v' e _ q r=>hc ⟨by rw [← same v' e]; exact q,by omega⟩))]
   obtain ⟨he,h4⟩:=hc
   rw [if_pos ⟨str_beq.2 he,h4⟩]
   have hok:okW 4 x=some v:=okW_yes (by decide) ha (by omega) he (by omega)
   have hvd:pvD w i=v:=by unfold pvD; rw [hpv,hok]; rfl
   have hall':allOk w (i+1):=by unfold allOk; rw [hall,hpv,hok]; rfl
   refine ⟨by omega,?_⟩
   have ih':=fun S R=>ih (i+1) S R (by omega) ⟨by omega,hall'⟩
   obtain rfl | rfl | rfl | rfl | rfl:i=0∨i=1∨i=2∨i=3∨i=4:=by omega
   all_goals simp only [ruI,ssI,sbI,spI,swI,scI,stI,srI,saI,snI, ↓reduceIte,reduceCtorEq,Nat.reduceEqDiff,Nat.reduceAdd,Nat.reduceMul,Nat.reduceSub,Nat.reduceLeDiff,Nat.reduceBEq,Int.reduceToNat,Int.reduceLE,Int.reduceLT,Int.reduceEq,Int.reduceNe,di]
   all_goals refine ih' _ _ ?_
   all_goals (simp only [cellsR,hvd,Nat.reduceLT,ruI,ssI,sbI,spI,swI,scI,stI,srI,saI,snI, ↓reduceIte,reduceCtorEq,Nat.reduceEqDiff,Nat.reduceAdd,Nat.reduceMul,Nat.reduceSub,Nat.reduceLeDiff,Nat.reduceBEq,Int.reduceToNat,Int.reduceLE,Int.reduceLT,Int.reduceEq,Int.reduceNe,di] <;> rfl)
  | _ =>
   rw [ha] at c
   refine calls_of c ?_; simp only [ruI,ssI,sbI,spI,swI,scI,stI,srI,saI,snI,res21,b21k0,b21k1,b21k2,b21k3,b21k4,b21k5, ↓reduceIte,reduceCtorEq,Nat.reduceEqDiff,Nat.reduceAdd,Nat.reduceMul,Nat.reduceSub,Nat.reduceLeDiff,Nat.reduceBEq,Int.reduceToNat,Int.reduceLE,Int.reduceLT,Int.reduceEq,Int.reduceNe,di]
   rw [bad (okW_no (by decide) (fun v e=>by rw [ha] at e; cases e))]
 ·rename_i hge
  have:i=5:=by omega
  subst this
  simp only [tak,mkAggO,Nat.reduceLT,ruI,ssI,sbI,spI,swI,scI,stI,srI,saI,snI, ↓reduceIte,reduceCtorEq,Nat.reduceEqDiff,Nat.reduceAdd,Nat.reduceMul,Nat.reduceSub,Nat.reduceLeDiff,Nat.reduceBEq,Int.reduceToNat,Int.reduceLE,Int.reduceLT,Int.reduceEq,Int.reduceNe,di]
  refine calls_of (s_CheckRules (r:=rulesOf w)) ?_; simp only [ruI,ssI,sbI,spI,swI,scI,stI,srI,saI,snI,res21,b21k0,b21k1,b21k2,b21k3,b21k4,b21k5, ↓reduceIte,reduceCtorEq,Nat.reduceEqDiff,Nat.reduceAdd,Nat.reduceMul,Nat.reduceSub,Nat.reduceLeDiff,Nat.reduceBEq,Int.reduceToNat,Int.reduceLE,Int.reduceLT,Int.reduceEq,Int.reduceNe,di]
  have hp:parseW w=if rulesErr (rulesOf w)=0 then (rulesOf w,0) else (⟨0,0,0,0,0⟩,rulesErr (rulesOf w)):=by
   unfold parseW
   rw [if_pos ⟨hw,hall⟩]
  rw [hp]
  split <;> rfl
end Go.DI

/- The statement SurgeStrings: what it computes. No condition. -/
set_option linter.unusedSimpArgs false
set_option maxRecDepth 100000
namespace Go.DI
open Go.Proofs Go.RowKit Go.Lib Sg
theorem cut_fmt (r:Ru):cutS 32 (fmtR r)=(valsR r).map itoaB:=by
 unfold cutS fmtR
 rw [bs_toList,cutB_join (by simp [valsR]) (by
  intro x hx
  obtain ⟨n,_,rfl⟩:=List.mem_map.1 hx
  exact itoa_free (by decide)),List.map_map]
 rfl
theorem parse_fmt {r:Ru} (h:rulesErr r=0):parseW (cutS 32 (fmtR r))=(r,0):=by
 have hg:=rules_ok.1 h
 obtain ⟨l1,l2,l3,l4,l5,l6,_⟩:=hg
 have ok:∀ {n:Int},0≤n→n≤1000→okW 4 (itoaB n)=some n:=fun h0 h1=>okW_itoa (k:=3) h0 (Int.lt_of_le_of_lt h1 (by decide))
 have p0:pvA ((valsR r).map itoaB) 0=some r.I:=ok (by omega) (by omega)
 have p1:pvA ((valsR r).map itoaB) 1=some r.A:=ok (by omega) (by omega)
 have p2:pvA ((valsR r).map itoaB) 2=some r.lo:=ok (by omega) (by omega)
 have p3:pvA ((valsR r).map itoaB) 3=some r.hi:=ok (by omega) (by omega)
 have p4:pvA ((valsR r).map itoaB) 4=some r.T:=ok (by omega) (by omega)
 have hr:rulesOf ((valsR r).map itoaB)=r:=by unfold rulesOf pvD; rw [p0,p1,p2,p3,p4]; rfl
 rw [cut_fmt]
 unfold parseW
 rw [if_pos ⟨rfl,by simp only [allOk,p0,p1,p2,p3,p4]; rfl⟩,hr,if_pos h]
end Go.DI


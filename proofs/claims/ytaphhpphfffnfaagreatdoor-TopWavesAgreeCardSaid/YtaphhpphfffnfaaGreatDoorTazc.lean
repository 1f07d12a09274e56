/- The functions of the statement about resonances, as data. No condition. -/
import Derived.Test.YtaphhpphfffnfaaGreatDoorTaGe
import Derived.Test.YtaphhpphfffnfaaGreatDoorProg
import Derived.KernelRfl
import Derived.Test.YtaphhpphfffnfaaGreatDoorTav
import Derived.Test.YtaphhpphfffnfaaGreatDoorTax
/- The functions of the statement about resonances, as data. No condition. -/
namespace Go.DI
open Go.Proofs Go.RowKit
end Go.DI

/- The statement WaveResonant, as a contract. No condition. -/
set_option linter.unusedSimpArgs false
set_option maxRecDepth 100000
namespace Go.DI
open Go.Proofs Go.RowKit
theorem gmul_bd {u v:Ga} (hu:GB 12500000 u) (hv:GB 12500000 v):((-156250000000000≤u.1 * v.1∧u.1 * v.1≤156250000000000) ∧ -156250000000000≤u.2 * v.2∧u.2 * v.2≤156250000000000)∧(-156250000000000≤u.1 * v.2∧u.1 * v.2≤156250000000000) ∧ -156250000000000≤u.2 * v.1∧u.2 * v.1≤156250000000000:=by
 have key:∀ a b:Int, -12500000≤a∧a≤12500000 → -12500000≤b∧b≤12500000 → -156250000000000≤a * b∧a * b≤156250000000000:=by
  intro a b ha hb
  have h1:=Int.natAbs_mul a b
  have h2:a.natAbs * b.natAbs≤12500000 * 12500000:=Nat.mul_le_mul (by omega) (by omega)
  omega
 exact ⟨⟨key _ _ hu.1 hv.1,key _ _ hu.2 hv.2⟩,key _ _ hu.1 hv.2,key _ _ hu.2 hv.1⟩
theorem c_GMul {u v:Ga} (hu:GB 12500000 u) (hv:GB 12500000 v):Contract Tryz.prog 66 [gI u,gI v] (gI (gmul u v)):=by
 have hb:=gmul_bd hu hv
 refine contract_run Tryz.func66 k66 rfl ?_
 simp only [body66,b66,res66,gI,vaE, ↓reduceIte,reduceCtorEq,Nat.reduceEqDiff,Nat.reduceAdd,Nat.reduceMul,Nat.reduceSub,Nat.reduceLeDiff,Nat.reduceBEq,Int.reduceToNat,Int.reduceLE,Int.reduceLT,Int.reduceEq,Int.reduceNe,di]
 rw [wrap64 (n:=u.1 * v.1) (by omega) (by omega),wrap64 (n:=u.2 * v.2) (by omega) (by omega),wrap64 (n:=u.1 * v.2) (by omega) (by omega),wrap64 (n:=u.2 * v.1) (by omega) (by omega),wrap64 (n:=u.1 * v.1 - u.2 * v.2) (by omega) (by omega),wrap64 (n:=u.1 * v.2+u.2 * v.1) (by omega) (by omega)]
 rfl
theorem r_QuarterErr {h:Int}:Contract Tryz.prog 56 [.int .i64 h] (.int .i64 (quarterE h)):=by
 refine contract_run Tryz.func56 k56 rfl ?_
 simp only [body56,b56,res56,b56k0,vaE, ↓reduceIte,reduceCtorEq,Nat.reduceEqDiff,Nat.reduceAdd,Nat.reduceMul,Nat.reduceSub,Nat.reduceLeDiff,Nat.reduceBEq,Int.reduceToNat,Int.reduceLE,Int.reduceLT,Int.reduceEq,Int.reduceNe,di]
 refine calls_of c_Within ?_; simp only [vaE,res56,b56k0, ↓reduceIte,reduceCtorEq,Nat.reduceEqDiff,Nat.reduceAdd,Nat.reduceMul,Nat.reduceSub,Nat.reduceLeDiff,Nat.reduceBEq,Int.reduceToNat,Int.reduceLE,Int.reduceLT,Int.reduceEq,Int.reduceNe,di]
 unfold quarterE
 split <;> rfl
end Go.DI

/- The functions of the reference's matrices, as data. No condition. -/
namespace Go.DI
open Go.Proofs Go.RowKit
end Go.DI

/- Contracts: whole complex numbers, matrices in the reference. No condition. -/
set_option linter.unusedSimpArgs false
set_option maxRecDepth 100000
namespace Go.DI
open Go.Proofs Go.RowKit
end Go.DI

/- The statement WaveQuarters, as a contract. No condition. -/
set_option linter.unusedSimpArgs false
set_option maxRecDepth 100000
namespace Go.DI
open Go.Proofs Go.RowKit
theorem GB.mono {M K:Int} {u:Ga} (h:GB M u) (k:M≤K):GB K u:=by
 have h1:=h.1; have h2:=h.2
 exact ⟨by omega,by omega⟩
end Go.DI

/- The functions of oscillations in the reference and the statements, as data. No condition. -/
namespace Go.DI
open Go.Proofs Go.RowKit
def b57k0:DCode :=
 (.seq
 (.region [⟨some 2,.mov,[.c (.int .i64 0)],none,[]⟩] false)
 .ret)
def b57:DCode :=
 (.seq
 (.region [⟨some 1,.box,[.t 0],none,[]⟩,
 ⟨some 2,.mov,[.c (.int .i64 0)],none,[]⟩] false)
 (.seq
 (.seq
 (.region [⟨some 3,(.faddr 0 false 1),[.t 1],none,[]⟩,
 ⟨some 4,(.load false 1),[.t 3],none,[0]⟩,
 ⟨some 5,.call,[.f 47,.t 4,.c (.int .i64 (-10)),.c (.int .i64 10)],none,[1]⟩,
 ⟨some 6,(.un .not),[.t 5],none,[2]⟩,
 ⟨some 7,.mov,[.t 6],none,[3,2]⟩,
 ⟨some 8,(.faddr 1 false 1),[.t 1],(some (7,false)),[4]⟩,
 ⟨some 9,(.load false 1),[.t 8],(some (7,false)),[5,4]⟩,
 ⟨some 10,.call,[.f 47,.t 9,.c (.int .i64 (-10)),.c (.int .i64 10)],(some (7,false)),[6,4,4]⟩,
 ⟨some 11,(.un .not),[.t 10],(some (7,false)),[7,4]⟩,
 ⟨some 12,.pick,[.t 7,.c (.bool true),.t 11],none,[4,8]⟩] false)
 (.cond (.t 12)
 (.seq
 (.region [⟨some 2,.mov,[.c (.int .i64 2)],none,[]⟩] false)
 .ret)
 .skip))
 (.keep [] [] b57k0)))
def d57:DFn:=⟨1,13,[.tmp 2],b57⟩
theorem body57:d57.body=b57:=rfl
theorem res57:d57.res=[.tmp 2]:=rfl
theorem k57:chkFn Tryz.prog Tryz.f57 d57=true:=by kernel_rfl
def b61:DCode :=
 (.seq
 (.region [⟨some 1,.box,[.t 0],none,[]⟩,
 ⟨some 2,(.alloc [(.imm (.int .i64 0)),(.imm (.slc 2 [])),(.imm (.slc 2 [])),(.imm (.slc 2 [])),(.imm (.int .i64 0)),(.imm (.int .i64 0))]),[],none,[]⟩] false)
 (.seq
 (.region [⟨some 3,(.faddr 1 false 1),[.t 1],none,[]⟩,
 ⟨some 4,(.load false 1),[.t 3],none,[0]⟩,
 ⟨some 5,.call,[.f 150,.t 4],none,[1]⟩,
 ⟨some 6,(.faddr 2 false 1),[.t 1],none,[]⟩,
 ⟨some 7,(.load false 1),[.t 6],none,[3]⟩,
 ⟨some 8,.call,[.f 150,.t 7],none,[4,2]⟩,
 ⟨some 9,(.faddr 3 false 1),[.t 1],none,[]⟩,
 ⟨some 10,(.load false 1),[.t 9],none,[6]⟩,
 ⟨some 11,.call,[.f 150,.t 10],none,[7,5]⟩,
 ⟨some 12,(.faddr 1 false 1),[.t 1],none,[0,1,2,3,4,6,7]⟩,
 ⟨none,(.store 1),[.t 12,.t 5],none,[9,2,8,0,1,2,3,4,6,7]⟩,
 ⟨some 13,(.faddr 2 false 1),[.t 1],none,[0,1,2,3,4,5,6,7,9,10]⟩,
 ⟨none,(.store 1),[.t 13,.t 8],none,[11,5,10,0,1,2,3,4,5,6,7,9,10]⟩,
 ⟨some 14,(.faddr 3 false 1),[.t 1],none,[0,1,2,3,4,5,6,7,8,9,10,11,12]⟩,
 ⟨none,(.store 1),[.t 14,.t 11],none,[13,8,12,0,1,2,3,4,5,6,7,8,9,10,11,12]⟩] true)
 (.seq
 (.region [⟨some 15,(.load true 6),[.t 1],none,[]⟩,
 ⟨none,(.store 6),[.t 2,.t 15],none,[0,0]⟩] false)
 .ret)))
def d61:DFn:=⟨1,16,[.cell 2 true 6],b61⟩
theorem body61:d61.body=b61:=rfl
theorem res61:d61.res=[.cell 2 true 6]:=rfl
theorem k61:chkFn Tryz.prog Tryz.f61 d61=true:=by kernel_rfl
end Go.DI


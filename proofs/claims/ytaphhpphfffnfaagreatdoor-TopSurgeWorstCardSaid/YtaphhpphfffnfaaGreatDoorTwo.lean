/- The reference's functions of covers, as data. No condition. -/
import Derived.Test.YtaphhpphfffnfaaGreatDoorTwl
namespace Go.DI
open Go.Proofs Go.RowKit
def b69k0:DCode :=
 (.seq
 (.region [⟨some 2,.mov,[.c (.int .i64 0)],none,[]⟩] false)
 .ret)
def b69k1:DCode :=
 (.seq
 (.seq
 (.region [⟨some 28,(.faddr 5 true 2),[.t 1],none,[]⟩,
 ⟨some 29,(.faddr 0 false 1),[.t 28],none,[0]⟩,
 ⟨some 30,(.load false 1),[.t 29],none,[1]⟩,
 ⟨some 31,(.faddr 5 true 2),[.t 1],none,[]⟩,
 ⟨some 32,(.faddr 1 false 1),[.t 31],none,[3]⟩,
 ⟨some 33,(.load false 1),[.t 32],none,[4]⟩,
 ⟨some 34,(.bin .gtr),[.t 30,.t 33],none,[2,5]⟩] false)
 (.cond (.t 34)
 (.seq
 (.region [⟨some 2,.mov,[.c (.int .i64 9)],none,[]⟩] false)
 .ret)
 .skip))
 (.keep [] [] b69k0))
def b69k2:DCode :=
 (.seq
 (.seq
 (.region [⟨some 10,(.faddr 4 false 1),[.t 1],none,[]⟩,
 ⟨some 11,(.load false 1),[.t 10],none,[0]⟩,
 ⟨some 12,.call,[.f 47,.t 11,.c (.int .i64 1),.c (.int .i64 8)],none,[1]⟩,
 ⟨some 13,(.un .not),[.t 12],none,[2]⟩,
 ⟨some 14,.mov,[.t 13],none,[3,2]⟩,
 ⟨some 15,(.faddr 5 true 2),[.t 1],(some (14,false)),[4]⟩,
 ⟨some 16,(.faddr 0 false 1),[.t 15],(some (14,false)),[5,4]⟩,
 ⟨some 17,(.load false 1),[.t 16],(some (14,false)),[6,4]⟩,
 ⟨some 18,.call,[.f 47,.t 17,.c (.int .i64 (-100000)),.c (.int .i64 100000)],(some (14,false)),[7,4,4]⟩,
 ⟨some 19,(.un .not),[.t 18],(some (14,false)),[8,4]⟩,
 ⟨some 20,.pick,[.t 14,.c (.bool true),.t 19],none,[4,9]⟩,
 ⟨some 21,.mov,[.t 20],none,[10,8]⟩,
 ⟨some 22,(.faddr 5 true 2),[.t 1],(some (21,false)),[11]⟩,
 ⟨some 23,(.faddr 1 false 1),[.t 22],(some (21,false)),[12,11]⟩,
 ⟨some 24,(.load false 1),[.t 23],(some (21,false)),[13,11]⟩,
 ⟨some 25,.call,[.f 47,.t 24,.c (.int .i64 (-100000)),.c (.int .i64 100000)],(some (21,false)),[14,11,11]⟩,
 ⟨some 26,(.un .not),[.t 25],(some (21,false)),[15,11]⟩,
 ⟨some 27,.pick,[.t 21,.c (.bool true),.t 26],none,[11,16]⟩] false)
 (.cond (.t 27)
 (.seq
 (.region [⟨some 2,.mov,[.c (.int .i64 2)],none,[]⟩] false)
 .ret)
 .skip))
 (.keep [1] [1] b69k1))
def b69:DCode :=
 (.seq
 (.region [⟨some 1,.box,[.t 0],none,[]⟩,
 ⟨some 2,.mov,[.c (.int .i64 0)],none,[]⟩] false)
 (.seq
 (.seq
 (.region [⟨some 4,(.faddr 0 true 4),[.t 1],none,[]⟩,
 ⟨some 5,(.load true 4),[.t 4],none,[0]⟩,
 ⟨some 6,.call,[.f 157,.t 5],none,[1]⟩,
 ⟨some 3,.mov,[.t 6],none,[2,2,0,1,2]⟩] false)
 (.seq
 (.region [⟨some 7,.mov,[.t 3],none,[]⟩,
 ⟨some 8,(.bin .neq),[.t 7,.c (.int .i64 0)],none,[0]⟩] false)
 (.cond (.t 8)
 (.seq
 (.region [⟨some 9,.mov,[.t 3],none,[]⟩,
 ⟨some 2,.mov,[.t 9],none,[0,0]⟩] false)
 .ret)
 .skip)))
 (.keep [1] [1] b69k2)))
def d69:DFn:=⟨1,35,[.tmp 2],b69⟩
theorem body69:d69.body=b69:=rfl
theorem res69:d69.res=[.tmp 2]:=rfl
theorem k69:chkFn Tryz.prog Tryz.f69 d69=true:=by kernel_rfl
def b74k0:DCode :=
 (.region [⟨some 15,.mov,[.t 3],none,[]⟩,
 ⟨some 16,(.bin .add),[.t 15,.c (.int .i64 1)],none,[0]⟩,
 ⟨some 3,.mov,[.t 16],none,[1,0,1]⟩] false)
def b74k1:DCode :=
 (.seq
 (.block 1
 (.seq
 (.region [⟨some 17,.movv,[.t 0],none,[]⟩,
 ⟨some 18,.mov,[.t 3],none,[]⟩,
 ⟨some 19,(.iaddr 4),[.t 17,.t 18],none,[0,1]⟩,
 ⟨some 20,(.load true 4),[.t 19],none,[2]⟩,
 ⟨some 21,.call,[.f 157,.t 20],none,[3]⟩,
 ⟨some 4,.mov,[.t 21],none,[4,4,0,1,2,3,4]⟩] false)
 (.seq
 (.region [⟨some 22,.mov,[.t 4],none,[]⟩,
 ⟨some 23,(.bin .neq),[.t 22,.c (.int .i64 0)],none,[0]⟩] false)
 (.cond (.t 23)
 (.seq
 (.region [⟨some 24,.mov,[.t 4],none,[]⟩,
 ⟨some 2,.mov,[.t 24],none,[0,0]⟩] false)
 .ret)
 .skip))))
 (.keep [0,3] [] b74k0))
def b74l0:DCode:=.keep [0,3] []
 (.seq
 (.seq
 (.region [⟨some 11,.mov,[.t 3],none,[]⟩,
 ⟨some 12,.movv,[.t 0],none,[]⟩,
 ⟨some 13,.len,[.t 12],none,[1]⟩,
 ⟨some 14,(.bin .lss),[.t 11,.t 13],none,[0,2]⟩] false)
 (.cond (.t 14)
 .skip
 (.exit 0)))
 (.keep [0,3] [] b74k1))
def b74k2:DCode :=
 (.seq
 (.region [⟨some 2,.mov,[.c (.int .i64 0)],none,[]⟩] false)
 .ret)
def b74k3:DCode :=
 (.seq
 (.seq
 (.region [⟨some 3,.mov,[.c (.int .i64 0)],none,[]⟩] false)
 (.block 0
 (.loop b74l0)))
 (.keep [] [] b74k2))
def b74k4:DCode :=
 (.seq
 (.seq
 (.region [⟨some 8,.movv,[.t 0],none,[]⟩,
 ⟨some 9,.len,[.t 8],none,[0]⟩,
 ⟨some 10,(.bin .gtr),[.t 9,.c (.int .i64 64)],none,[1]⟩] false)
 (.cond (.t 10)
 (.seq
 (.region [⟨some 2,.mov,[.c (.int .i64 8)],none,[]⟩] false)
 .ret)
 .skip))
 (.keep [0] [] b74k3))
def b74:DCode :=
 (.seq
 (.region [⟨some 2,.mov,[.c (.int .i64 0)],none,[]⟩] false)
 (.seq
 (.seq
 (.region [⟨some 5,.movv,[.t 0],none,[]⟩,
 ⟨some 6,.len,[.t 5],none,[0]⟩,
 ⟨some 7,(.bin .eql),[.t 6,.c (.int .i64 0)],none,[1]⟩] false)
 (.cond (.t 7)
 (.seq
 (.region [⟨some 2,.mov,[.c (.int .i64 10)],none,[]⟩] false)
 .ret)
 .skip))
 (.keep [0] [] b74k4)))
def d74:DFn:=⟨1,25,[.tmp 2],b74⟩
theorem body74:d74.body=b74:=rfl
theorem res74:d74.res=[.tmp 2]:=rfl
theorem k74:chkFn Tryz.prog Tryz.f74 d74=true:=by kernel_rfl
def b76:DCode :=
 (.seq
 (.region [⟨some 2,.mov,[.c (.slc 4 [])],none,[]⟩] false)
 (.seq
 (.region [⟨some 3,(.bsl 4),[],none,[]⟩,
 ⟨some 4,.movv,[.t 0],none,[]⟩,
 ⟨some 5,(.append 4 32 false),[.t 3,.t 4],none,[0,1]⟩,
 ⟨some 2,.movv,[.t 5],none,[2,2,0,1,2]⟩] false)
 .ret))
def d76:DFn:=⟨1,6,[.tmp 2],b76⟩
theorem body76:d76.body=b76:=rfl
theorem res76:d76.res=[.tmp 2]:=rfl
theorem k76:chkFn Tryz.prog Tryz.f76 d76=true:=by kernel_rfl
def b70:DCode :=
 (.seq
 (.region [⟨some 1,.box,[.t 0],none,[]⟩,
 ⟨some 2,.mov,[.c (.int .i64 0)],none,[]⟩] false)
 (.seq
 (.region [⟨some 3,(.faddr 0 true 2),[.t 1],none,[]⟩,
 ⟨some 4,(.faddr 1 false 1),[.t 3],none,[0]⟩,
 ⟨some 5,(.load false 1),[.t 4],none,[1]⟩,
 ⟨some 6,(.faddr 0 true 2),[.t 1],none,[]⟩,
 ⟨some 7,(.faddr 0 false 1),[.t 6],none,[3]⟩,
 ⟨some 8,(.load false 1),[.t 7],none,[4]⟩,
 ⟨some 9,(.bin .sub),[.t 5,.t 8],none,[2,5]⟩,
 ⟨some 10,(.bin .add),[.t 9,.c (.int .i64 1)],none,[6]⟩,
 ⟨some 11,(.faddr 2 true 2),[.t 1],none,[]⟩,
 ⟨some 12,(.faddr 1 false 1),[.t 11],none,[8]⟩,
 ⟨some 13,(.load false 1),[.t 12],none,[9]⟩,
 ⟨some 14,(.faddr 2 true 2),[.t 1],none,[]⟩,
 ⟨some 15,(.faddr 0 false 1),[.t 14],none,[11]⟩,
 ⟨some 16,(.load false 1),[.t 15],none,[12]⟩,
 ⟨some 17,(.bin .sub),[.t 13,.t 16],none,[10,13]⟩,
 ⟨some 18,(.bin .add),[.t 17,.c (.int .i64 1)],none,[14]⟩,
 ⟨some 19,(.bin .mul),[.t 10,.t 18],none,[7,15]⟩,
 ⟨some 2,.mov,[.t 19],none,[16,0,1,2,3,4,5,6,7,8,9,10,11,12,13,14,15,16]⟩] false)
 .ret))
def d70:DFn:=⟨1,20,[.tmp 2],b70⟩
theorem body70:d70.body=b70:=rfl
theorem res70:d70.res=[.tmp 2]:=rfl
theorem k70:chkFn Tryz.prog Tryz.f70 d70=true:=by kernel_rfl
end Go.DI


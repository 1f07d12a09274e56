/- Plans as plain data; contracts of names, plants and tasks. No condition. -/
import Derived.Test.YtafeooaccdebkaaDsGe
import Derived.Test.YtafeooaccdebkaaProg
import Derived.KernelRfl
/- The functions of chapter 8 that check plants and tasks, as data. No condition. -/
namespace Go.DI
open Go.Proofs Go.RowKit
def b17:DCode :=
 (.seq
 (.region [⟨some 6,.mov,[.c (.bool false)],none,[]⟩] false)
 (.seq
 (.region [⟨some 7,.mov,[.t 1],none,[]⟩,
 ⟨some 8,.mov,[.t 0],none,[]⟩,
 ⟨some 9,(.bin .leq),[.t 7,.t 8],none,[0,1]⟩,
 ⟨some 10,.mov,[.t 9],none,[2]⟩,
 ⟨some 11,.mov,[.t 0],(some (10,true)),[3]⟩,
 ⟨some 12,.mov,[.t 2],(some (10,true)),[3]⟩,
 ⟨some 13,(.bin .leq),[.t 11,.t 12],(some (10,true)),[4,5,3]⟩,
 ⟨some 14,.pick,[.t 10,.t 13,.c (.bool false)],none,[3,6]⟩,
 ⟨some 6,.mov,[.t 14],none,[7,3,0,1,2,3,4,5,6,7]⟩] false)
 .ret))
def d17:DFn:=⟨3,15,[.tmp 6],b17⟩
theorem body17:d17.body=b17:=rfl
theorem res17:d17.res=[.tmp 6]:=rfl
theorem k17:chkFn Try.prog Try.f17 d17=true:=by kernel_rfl
def b18:DCode :=
 (.seq
 (.region [⟨some 2,.mov,[.c (.int .i64 0)],none,[]⟩] false)
 (.seq
 (.region [⟨some 3,.mov,[.t 0],none,[]⟩,
 ⟨some 4,.mov,[.t 0],none,[]⟩,
 ⟨some 5,(.un .neg),[.t 4],none,[1]⟩,
 ⟨some 6,(.mm true),[.t 3,.t 5],none,[0,2]⟩,
 ⟨some 2,.mov,[.t 6],none,[3,0,1,2,3]⟩] false)
 .ret))
def d18:DFn:=⟨1,7,[.tmp 2],b18⟩
theorem body18:d18.body=b18:=rfl
theorem res18:d18.res=[.tmp 2]:=rfl
theorem k18:chkFn Try.prog Try.f18 d18=true:=by kernel_rfl
def b16k0:DCode :=
 (.seq
 (.region [⟨some 13,.mov,[.t 0],none,[]⟩,
 ⟨some 4,.mov,[.t 13],none,[0,0]⟩] false)
 .ret)
def b16:DCode :=
 (.seq
 (.region [⟨some 4,.mov,[.c (.int .i64 0)],none,[]⟩] false)
 (.seq
 (.region [⟨some 5,.mov,[.t 0],none,[]⟩,
 ⟨some 6,.mov,[.t 1],none,[]⟩,
 ⟨some 7,(.bin .rem),[.t 5,.t 6],none,[0,1]⟩,
 ⟨some 0,.mov,[.t 7],none,[2,0,1,2]⟩] false)
 (.seq
 (.seq
 (.region [⟨some 8,.mov,[.t 0],none,[]⟩,
 ⟨some 9,(.bin .lss),[.t 8,.c (.int .i64 0)],none,[0]⟩] false)
 (.cond (.t 9)
 (.region [⟨some 10,.mov,[.t 0],none,[]⟩,
 ⟨some 11,.mov,[.t 1],none,[]⟩,
 ⟨some 12,(.bin .add),[.t 10,.t 11],none,[0,1]⟩,
 ⟨some 0,.mov,[.t 12],none,[2,0,1,2]⟩] false)
 .skip))
 (.keep [0] [] b16k0))))
def d16:DFn:=⟨2,14,[.tmp 4],b16⟩
theorem body16:d16.body=b16:=rfl
theorem res16:d16.res=[.tmp 4]:=rfl
theorem k16:chkFn Try.prog Try.f16 d16=true:=by kernel_rfl
def b20k0:DCode :=
 (.region [⟨some 15,.mov,[.t 5],none,[]⟩,
 ⟨some 16,(.bin .add),[.t 15,.c (.int .i64 1)],none,[0]⟩,
 ⟨some 5,.mov,[.t 16],none,[1,0,1]⟩] false)
def b20k1:DCode :=
 (.seq
 (.block 1
 (.seq
 (.region [⟨some 17,.movv,[.t 0],none,[]⟩,
 ⟨some 18,.mov,[.t 5],none,[]⟩,
 ⟨some 19,(.iaddr 1),[.t 17,.t 18],none,[0,1]⟩,
 ⟨some 20,(.load false 1),[.t 19],none,[2]⟩,
 ⟨some 21,.movv,[.t 1],none,[]⟩,
 ⟨some 22,.mov,[.t 5],none,[]⟩,
 ⟨some 23,(.iaddr 1),[.t 21,.t 22],none,[4,5]⟩,
 ⟨some 24,(.load false 1),[.t 23],none,[6]⟩,
 ⟨some 25,(.bin .neq),[.t 20,.t 24],none,[3,7]⟩] true)
 (.cond (.t 25)
 (.seq
 (.region [⟨some 4,.mov,[.c (.bool false)],none,[]⟩] false)
 .ret)
 .skip)))
 (.keep [0,1,5] [] b20k0))
def b20l0:DCode:=.keep [0,1,5] []
 (.seq
 (.seq
 (.region [⟨some 11,.mov,[.t 5],none,[]⟩,
 ⟨some 12,.movv,[.t 0],none,[]⟩,
 ⟨some 13,.len,[.t 12],none,[1]⟩,
 ⟨some 14,(.bin .lss),[.t 11,.t 13],none,[0,2]⟩] false)
 (.cond (.t 14)
 .skip
 (.exit 0)))
 (.keep [0,1,5] [] b20k1))
def b20k2:DCode :=
 (.seq
 (.region [⟨some 4,.mov,[.c (.bool true)],none,[]⟩] false)
 .ret)
def b20k3:DCode :=
 (.seq
 (.seq
 (.region [⟨some 5,.mov,[.c (.int .i64 0)],none,[]⟩] false)
 (.block 0
 (.loop b20l0)))
 (.keep [] [] b20k2))
def b20:DCode :=
 (.seq
 (.region [⟨some 4,.mov,[.c (.bool false)],none,[]⟩] false)
 (.seq
 (.seq
 (.region [⟨some 6,.movv,[.t 0],none,[]⟩,
 ⟨some 7,.len,[.t 6],none,[0]⟩,
 ⟨some 8,.movv,[.t 1],none,[]⟩,
 ⟨some 9,.len,[.t 8],none,[2]⟩,
 ⟨some 10,(.bin .neq),[.t 7,.t 9],none,[1,3]⟩] false)
 (.cond (.t 10)
 (.seq
 (.region [⟨some 4,.mov,[.c (.bool false)],none,[]⟩] false)
 .ret)
 .skip))
 (.keep [0,1] [] b20k3)))
def d20:DFn:=⟨2,26,[.tmp 4],b20⟩
theorem body20:d20.body=b20:=rfl
theorem res20:d20.res=[.tmp 4]:=rfl
theorem k20:chkFn Try.prog Try.f20 d20=true:=by kernel_rfl
def b15:DCode :=
 (.seq
 (.region [⟨some 2,.mov,[.c (.slc 1 [])],none,[]⟩] false)
 (.seq
 (.region [⟨some 3,(.bsl 1),[],none,[]⟩,
 ⟨some 4,.movv,[.t 0],none,[]⟩,
 ⟨some 5,(.append 1 8 false),[.t 3,.t 4],none,[0,1]⟩,
 ⟨some 2,.movv,[.t 5],none,[2,2,0,1,2]⟩] false)
 .ret))
def d15:DFn:=⟨1,6,[.tmp 2],b15⟩
theorem body15:d15.body=b15:=rfl
theorem res15:d15.res=[.tmp 2]:=rfl
theorem k15:chkFn Try.prog Try.f15 d15=true:=by kernel_rfl
def b64k0:DCode :=
 (.region [⟨some 18,.mov,[.t 3],none,[]⟩,
 ⟨some 19,(.bin .add),[.t 18,.c (.int .i64 1)],none,[0]⟩,
 ⟨some 3,.mov,[.t 19],none,[1,0,1]⟩] false)
def b64k1:DCode :=
 (.seq
 (.block 1
 (.seq
 (.region [⟨some 20,.mov,[.t 0],none,[]⟩,
 ⟨some 21,.mov,[.t 3],none,[]⟩,
 ⟨some 22,.sidx,[.t 20,.t 21],none,[0,1]⟩,
 ⟨some 4,.mov,[.t 22],none,[2,0,1,2]⟩] false)
 (.seq
 (.region [⟨some 23,.mov,[.t 4],none,[]⟩,
 ⟨some 24,(.bin .geq),[.t 23,.c (.int .u8 97)],none,[0]⟩,
 ⟨some 25,.mov,[.t 24],none,[1]⟩,
 ⟨some 26,.mov,[.t 4],(some (25,true)),[2]⟩,
 ⟨some 27,(.bin .leq),[.t 26,.c (.int .u8 122)],(some (25,true)),[3,2]⟩,
 ⟨some 28,.pick,[.t 25,.t 27,.c (.bool false)],none,[2,4]⟩,
 ⟨some 29,.mov,[.t 28],none,[5,2]⟩,
 ⟨some 30,.mov,[.t 4],(some (29,false)),[6]⟩,
 ⟨some 31,(.bin .geq),[.t 30,.c (.int .u8 65)],(some (29,false)),[7,6]⟩,
 ⟨some 32,.mov,[.t 31],(some (29,false)),[8,6,6]⟩,
 ⟨some 33,.mov,[.t 4],(some (32,true)),[9]⟩,
 ⟨some 34,(.bin .leq),[.t 33,.c (.int .u8 90)],(some (32,true)),[10,9]⟩,
 ⟨some 35,.pick,[.t 32,.t 34,.c (.bool false)],(some (29,false)),[9,11,6]⟩,
 ⟨some 36,.pick,[.t 29,.c (.bool true),.t 35],none,[6,12]⟩,
 ⟨some 5,.mov,[.t 36],none,[13,9,0,1,2,3,4,5,6,7,8,9,10,11,12,13]⟩] false)
 (.seq
 (.region [⟨some 37,.mov,[.t 5],none,[]⟩,
 ⟨some 38,(.un .not),[.t 37],none,[0]⟩,
 ⟨some 39,.mov,[.t 38],none,[1]⟩,
 ⟨some 40,.mov,[.t 3],(some (39,true)),[2]⟩,
 ⟨some 41,(.bin .eql),[.t 40,.c (.int .i64 0)],(some (39,true)),[3,2]⟩,
 ⟨some 42,.mov,[.t 41],(some (39,true)),[4,2,2]⟩,
 ⟨some 43,.mov,[.t 4],(some (42,false)),[5]⟩,
 ⟨some 44,(.bin .neq),[.t 43,.c (.int .u8 45)],(some (42,false)),[6,5]⟩,
 ⟨some 45,.mov,[.t 44],(some (42,false)),[7,5,5]⟩,
 ⟨some 46,.mov,[.t 4],(some (45,true)),[8]⟩,
 ⟨some 47,(.bin .lss),[.t 46,.c (.int .u8 48)],(some (45,true)),[9,8]⟩,
 ⟨some 48,.mov,[.t 47],(some (45,true)),[10,8,8]⟩,
 ⟨some 49,.mov,[.t 4],(some (48,false)),[11]⟩,
 ⟨some 50,(.bin .gtr),[.t 49,.c (.int .u8 57)],(some (48,false)),[12,11]⟩,
 ⟨some 51,.pick,[.t 48,.c (.bool true),.t 50],(some (45,true)),[11,13,8]⟩,
 ⟨some 52,.pick,[.t 45,.t 51,.c (.bool false)],(some (42,false)),[8,14,5]⟩,
 ⟨some 53,.pick,[.t 42,.c (.bool true),.t 52],(some (39,true)),[5,15,2]⟩,
 ⟨some 54,.pick,[.t 39,.t 53,.c (.bool false)],none,[2,16]⟩] false)
 (.cond (.t 54)
 (.seq
 (.region [⟨some 2,.mov,[.c (.bool false)],none,[]⟩] false)
 .ret)
 .skip)))))
 (.keep [0,3] [] b64k0))
def b64l0:DCode:=.keep [0,3] []
 (.seq
 (.seq
 (.region [⟨some 14,.mov,[.t 3],none,[]⟩,
 ⟨some 15,.mov,[.t 0],none,[]⟩,
 ⟨some 16,.slen,[.t 15],none,[1]⟩,
 ⟨some 17,(.bin .lss),[.t 14,.t 16],none,[0,2]⟩] false)
 (.cond (.t 17)
 .skip
 (.exit 0)))
 (.keep [0,3] [] b64k1))
def b64k2:DCode :=
 (.seq
 (.region [⟨some 2,.mov,[.c (.bool true)],none,[]⟩] false)
 .ret)
def b64k3:DCode :=
 (.seq
 (.seq
 (.region [⟨some 3,.mov,[.c (.int .i64 0)],none,[]⟩] false)
 (.block 0
 (.loop b64l0)))
 (.keep [] [] b64k2))
def b64:DCode :=
 (.seq
 (.region [⟨some 2,.mov,[.c (.bool false)],none,[]⟩] false)
 (.seq
 (.seq
 (.region [⟨some 6,.mov,[.t 0],none,[]⟩,
 ⟨some 7,.slen,[.t 6],none,[0]⟩,
 ⟨some 8,(.bin .lss),[.t 7,.c (.int .i64 1)],none,[1]⟩,
 ⟨some 9,.mov,[.t 8],none,[2]⟩,
 ⟨some 10,.mov,[.t 0],(some (9,false)),[3]⟩,
 ⟨some 11,.slen,[.t 10],(some (9,false)),[4,3]⟩,
 ⟨some 12,(.bin .gtr),[.t 11,.c (.int .i64 12)],(some (9,false)),[5,3]⟩,
 ⟨some 13,.pick,[.t 9,.c (.bool true),.t 12],none,[3,6]⟩] false)
 (.cond (.t 13)
 (.seq
 (.region [⟨some 2,.mov,[.c (.bool false)],none,[]⟩] false)
 .ret)
 .skip))
 (.keep [0] [] b64k3)))
def d64:DFn:=⟨1,55,[.tmp 2],b64⟩
theorem body64:d64.body=b64:=rfl
theorem res64:d64.res=[.tmp 2]:=rfl
theorem k64:chkFn Try.prog Try.f64 d64=true:=by kernel_rfl
def b65k0:DCode :=
 (.region [⟨some 10,.mov,[.t 5],none,[]⟩,
 ⟨some 11,(.bin .add),[.t 10,.c (.int .i64 1)],none,[0]⟩,
 ⟨some 5,.mov,[.t 11],none,[1,0,1]⟩] false)
def b65k1:DCode :=
 (.seq
 (.block 1
 (.seq
 (.region [⟨some 12,.movv,[.t 0],none,[]⟩,
 ⟨some 13,.mov,[.t 5],none,[]⟩,
 ⟨some 14,(.iaddr 1),[.t 12,.t 13],none,[0,1]⟩,
 ⟨some 15,(.load false 1),[.t 14],none,[2]⟩,
 ⟨some 16,.mov,[.t 1],none,[]⟩,
 ⟨some 17,(.bin .eql),[.t 15,.t 16],none,[3,4]⟩] false)
 (.cond (.t 17)
 (.seq
 (.region [⟨some 4,.mov,[.c (.bool true)],none,[]⟩] false)
 .ret)
 .skip)))
 (.keep [0,1,5] [] b65k0))
def b65l0:DCode:=.keep [0,1,5] []
 (.seq
 (.seq
 (.region [⟨some 6,.mov,[.t 5],none,[]⟩,
 ⟨some 7,.movv,[.t 0],none,[]⟩,
 ⟨some 8,.len,[.t 7],none,[1]⟩,
 ⟨some 9,(.bin .lss),[.t 6,.t 8],none,[0,2]⟩] false)
 (.cond (.t 9)
 .skip
 (.exit 0)))
 (.keep [0,1,5] [] b65k1))
def b65k2:DCode :=
 (.seq
 (.region [⟨some 4,.mov,[.c (.bool false)],none,[]⟩] false)
 .ret)
def b65:DCode :=
 (.seq
 (.region [⟨some 4,.mov,[.c (.bool false)],none,[]⟩] false)
 (.seq
 (.seq
 (.region [⟨some 5,.mov,[.c (.int .i64 0)],none,[]⟩] false)
 (.block 0
 (.loop b65l0)))
 (.keep [] [] b65k2)))
def d65:DFn:=⟨2,18,[.tmp 4],b65⟩
theorem body65:d65.body=b65:=rfl
theorem res65:d65.res=[.tmp 4]:=rfl
theorem k65:chkFn Try.prog Try.f65 d65=true:=by kernel_rfl
def b57k0:DCode :=
 (.seq
 (.region [⟨some 4,.mov,[.c (.int .i64 0)],none,[]⟩] false)
 .ret)
def b57k1:DCode :=
 (.seq
 (.seq
 (.region [⟨some 13,(.faddr 1 false 1),[.t 2],none,[]⟩,
 ⟨some 14,(.load false 1),[.t 13],none,[0]⟩,
 ⟨some 15,.call,[.f 17,.t 14,.c (.int .i64 (-10000)),.c (.int .i64 10000)],none,[1]⟩,
 ⟨some 16,(.un .not),[.t 15],none,[2]⟩,
 ⟨some 17,.mov,[.t 16],none,[3,2]⟩,
 ⟨some 18,(.faddr 2 false 1),[.t 2],(some (17,false)),[4]⟩,
 ⟨some 19,(.load false 1),[.t 18],(some (17,false)),[5,4]⟩,
 ⟨some 20,.call,[.f 17,.t 19,.c (.int .i64 (-10000)),.c (.int .i64 10000)],(some (17,false)),[6,4,4]⟩,
 ⟨some 21,(.un .not),[.t 20],(some (17,false)),[7,4]⟩,
 ⟨some 22,.pick,[.t 17,.c (.bool true),.t 21],none,[4,8]⟩,
 ⟨some 23,.mov,[.t 22],none,[9,7]⟩,
 ⟨some 24,(.faddr 3 false 1),[.t 2],(some (23,false)),[10]⟩,
 ⟨some 25,(.load false 1),[.t 24],(some (23,false)),[11,10]⟩,
 ⟨some 26,.call,[.f 17,.t 25,.c (.int .i64 0),.c (.int .i64 10000)],(some (23,false)),[12,10,10]⟩,
 ⟨some 27,(.un .not),[.t 26],(some (23,false)),[13,10]⟩,
 ⟨some 28,.pick,[.t 23,.c (.bool true),.t 27],none,[10,14]⟩] false)
 (.cond (.t 28)
 (.seq
 (.region [⟨some 4,.mov,[.c (.int .i64 2)],none,[]⟩] false)
 .ret)
 .skip))
 (.keep [] [] b57k0))
def b57k2:DCode :=
 (.seq
 (.seq
 (.region [⟨some 9,.movv,[.t 1],none,[]⟩,
 ⟨some 10,(.faddr 0 false 1),[.t 2],none,[]⟩,
 ⟨some 11,(.load false 1),[.t 10],none,[1]⟩,
 ⟨some 12,.call,[.f 65,.t 9,.t 11],none,[0,2]⟩] false)
 (.cond (.t 12)
 (.seq
 (.region [⟨some 4,.mov,[.c (.int .i64 5)],none,[]⟩] false)
 .ret)
 .skip))
 (.keep [2] [2] b57k1))
def b57:DCode :=
 (.seq
 (.region [⟨some 2,.box,[.t 0],none,[]⟩,
 ⟨some 4,.mov,[.c (.int .i64 0)],none,[]⟩] false)
 (.seq
 (.seq
 (.region [⟨some 5,(.faddr 0 false 1),[.t 2],none,[]⟩,
 ⟨some 6,(.load false 1),[.t 5],none,[0]⟩,
 ⟨some 7,.call,[.f 64,.t 6],none,[1]⟩,
 ⟨some 8,(.un .not),[.t 7],none,[2]⟩] false)
 (.cond (.t 8)
 (.seq
 (.region [⟨some 4,.mov,[.c (.int .i64 4)],none,[]⟩] false)
 .ret)
 .skip))
 (.keep [1,2] [2] b57k2)))
def d57:DFn:=⟨2,29,[.tmp 4],b57⟩
theorem body57:d57.body=b57:=rfl
theorem res57:d57.res=[.tmp 4]:=rfl
theorem k57:chkFn Try.prog Try.f57 d57=true:=by kernel_rfl
def b48k0:DCode :=
 (.region [⟨some 54,.mov,[.t 4],none,[]⟩,
 ⟨some 55,(.faddr 2 false 1),[.t 1],none,[]⟩,
 ⟨some 56,(.load false 1),[.t 55],none,[1]⟩,
 ⟨some 57,.mov,[.t 5],none,[]⟩,
 ⟨some 58,(.iaddr 4),[.t 56,.t 57],none,[2,3]⟩,
 ⟨some 59,(.faddr 0 false 1),[.t 58],none,[4]⟩,
 ⟨some 60,(.load false 1),[.t 59],none,[5]⟩,
 ⟨some 61,(.bsl 1),[.t 60],none,[6]⟩,
 ⟨some 62,(.append 1 16 false),[.t 54,.t 61],none,[0,7]⟩,
 ⟨some 4,.mov,[.t 62],none,[8,8,0,1,2,3,4,5,6,7,8]⟩] false)
def b48k1:DCode :=
 (.region [⟨some 41,.mov,[.t 5],none,[]⟩,
 ⟨some 42,(.bin .add),[.t 41,.c (.int .i64 1)],none,[0]⟩,
 ⟨some 5,.mov,[.t 42],none,[1,0,1]⟩] false)
def b48k2:DCode :=
 (.seq
 (.block 1
 (.seq
 (.seq
 (.region [⟨some 43,(.faddr 2 false 1),[.t 1],none,[]⟩,
 ⟨some 44,(.load false 1),[.t 43],none,[0]⟩,
 ⟨some 45,.mov,[.t 5],none,[]⟩,
 ⟨some 46,(.iaddr 4),[.t 44,.t 45],none,[1,2]⟩,
 ⟨some 47,(.load true 4),[.t 46],none,[3]⟩,
 ⟨some 48,.movv,[.t 4],none,[]⟩,
 ⟨some 49,.call,[.f 57,.t 47,.t 48],none,[4,5]⟩,
 ⟨some 6,.mov,[.t 49],none,[6,6,0,1,2,3,4,5,6]⟩] false)
 (.seq
 (.region [⟨some 50,.mov,[.t 6],none,[]⟩,
 ⟨some 51,(.bin .neq),[.t 50,.c (.int .i64 0)],none,[0]⟩] false)
 (.cond (.t 51)
 (.seq
 (.region [⟨some 52,.mov,[.t 5],none,[]⟩,
 ⟨some 53,.mov,[.t 6],none,[]⟩,
 ⟨some 2,.mov,[.t 52],none,[0,0]⟩,
 ⟨some 3,.mov,[.t 53],none,[1,2,0,1,2]⟩] false)
 .ret)
 .skip)))
 (.keep [1,4,5] [1,4,62] b48k0)))
 (.keep [1,4,5] [1,4,62] b48k1))
def b48l0:DCode:=.keep [1,4,5] [1,4,62]
 (.seq
 (.seq
 (.region [⟨some 36,.mov,[.t 5],none,[]⟩,
 ⟨some 37,(.faddr 2 false 1),[.t 1],none,[]⟩,
 ⟨some 38,(.load false 1),[.t 37],none,[1]⟩,
 ⟨some 39,.len,[.t 38],none,[2]⟩,
 ⟨some 40,(.bin .lss),[.t 36,.t 39],none,[0,3]⟩] false)
 (.cond (.t 40)
 .skip
 (.exit 0)))
 (.keep [1,4,5] [1,4,62] b48k2))
def b48k3:DCode :=
 (.seq
 (.region [⟨some 2,.mov,[.c (.int .i64 0)],none,[]⟩,
 ⟨some 3,.mov,[.c (.int .i64 0)],none,[0,0]⟩] false)
 .ret)
def b48k4:DCode :=
 (.seq
 (.region [⟨some 4,(.ntok 1),[.c (.slc 1 [])],none,[]⟩] false)
 (.seq
 (.seq
 (.region [⟨some 5,.mov,[.c (.int .i64 0)],none,[]⟩] false)
 (.block 0
 (.loop b48l0)))
 (.keep [] [] b48k3)))
def b48k5:DCode :=
 (.seq
 (.seq
 (.region [⟨some 32,(.faddr 2 false 1),[.t 1],none,[]⟩,
 ⟨some 33,(.load false 1),[.t 32],none,[0]⟩,
 ⟨some 34,.len,[.t 33],none,[1]⟩,
 ⟨some 35,(.bin .gtr),[.t 34,.c (.int .i64 5)],none,[2]⟩] false)
 (.cond (.t 35)
 (.seq
 (.region [⟨some 2,.mov,[.c (.int .i64 0)],none,[]⟩,
 ⟨some 3,.mov,[.c (.int .i64 8)],none,[0,0]⟩] false)
 .ret)
 .skip))
 (.keep [1] [1] b48k4))
def b48k6:DCode :=
 (.seq
 (.seq
 (.region [⟨some 28,(.faddr 2 false 1),[.t 1],none,[]⟩,
 ⟨some 29,(.load false 1),[.t 28],none,[0]⟩,
 ⟨some 30,.len,[.t 29],none,[1]⟩,
 ⟨some 31,(.bin .eql),[.t 30,.c (.int .i64 0)],none,[2]⟩] false)
 (.cond (.t 31)
 (.seq
 (.region [⟨some 2,.mov,[.c (.int .i64 0)],none,[]⟩,
 ⟨some 3,.mov,[.c (.int .i64 10)],none,[0,0]⟩] false)
 .ret)
 .skip))
 (.keep [1] [1] b48k5))
def b48k7:DCode :=
 (.seq
 (.seq
 (.region [⟨some 22,(.faddr 1 false 1),[.t 1],none,[]⟩,
 ⟨some 23,(.load false 1),[.t 22],none,[0]⟩,
 ⟨some 24,(.faddr 0 false 1),[.t 1],none,[]⟩,
 ⟨some 25,(.load false 1),[.t 24],none,[2]⟩,
 ⟨some 26,(.bin .sub),[.t 23,.t 25],none,[1,3]⟩,
 ⟨some 27,(.bin .geq),[.t 26,.c (.int .i64 40)],none,[4]⟩] false)
 (.cond (.t 27)
 (.seq
 (.region [⟨some 2,.mov,[.c (.int .i64 0)],none,[]⟩,
 ⟨some 3,.mov,[.c (.int .i64 8)],none,[0,0]⟩] false)
 .ret)
 .skip))
 (.keep [1] [1] b48k6))
def b48k8:DCode :=
 (.seq
 (.seq
 (.region [⟨some 17,(.faddr 0 false 1),[.t 1],none,[]⟩,
 ⟨some 18,(.load false 1),[.t 17],none,[0]⟩,
 ⟨some 19,(.faddr 1 false 1),[.t 1],none,[]⟩,
 ⟨some 20,(.load false 1),[.t 19],none,[2]⟩,
 ⟨some 21,(.bin .gtr),[.t 18,.t 20],none,[1,3]⟩] false)
 (.cond (.t 21)
 (.seq
 (.region [⟨some 2,.mov,[.c (.int .i64 0)],none,[]⟩,
 ⟨some 3,.mov,[.c (.int .i64 9)],none,[0,0]⟩] false)
 .ret)
 .skip))
 (.keep [1] [1] b48k7))
def b48:DCode :=
 (.seq
 (.region [⟨some 1,.box,[.t 0],none,[]⟩,
 ⟨some 2,.mov,[.c (.int .i64 0)],none,[]⟩,
 ⟨some 3,.mov,[.c (.int .i64 0)],none,[1]⟩] false)
 (.seq
 (.seq
 (.region [⟨some 7,(.faddr 0 false 1),[.t 1],none,[]⟩,
 ⟨some 8,(.load false 1),[.t 7],none,[0]⟩,
 ⟨some 9,.call,[.f 17,.t 8,.c (.int .i64 0),.c (.int .i64 1000000)],none,[1]⟩,
 ⟨some 10,(.un .not),[.t 9],none,[2]⟩,
 ⟨some 11,.mov,[.t 10],none,[3,2]⟩,
 ⟨some 12,(.faddr 1 false 1),[.t 1],(some (11,false)),[4]⟩,
 ⟨some 13,(.load false 1),[.t 12],(some (11,false)),[5,4]⟩,
 ⟨some 14,.call,[.f 17,.t 13,.c (.int .i64 0),.c (.int .i64 1000000)],(some (11,false)),[6,4,4]⟩,
 ⟨some 15,(.un .not),[.t 14],(some (11,false)),[7,4]⟩,
 ⟨some 16,.pick,[.t 11,.c (.bool true),.t 15],none,[4,8]⟩] false)
 (.cond (.t 16)
 (.seq
 (.region [⟨some 2,.mov,[.c (.int .i64 0)],none,[]⟩,
 ⟨some 3,.mov,[.c (.int .i64 2)],none,[0,0]⟩] false)
 .ret)
 .skip))
 (.keep [1] [1] b48k8)))
def d48:DFn:=⟨1,63,[.tmp 2,.tmp 3],b48⟩
theorem body48:d48.body=b48:=rfl
theorem res48:d48.res=[.tmp 2,.tmp 3]:=rfl
theorem k48:chkFn Try.prog Try.f48 d48=true:=by kernel_rfl
def b35:DCode :=
 (.seq
 (.region [⟨some 1,.box,[.t 0],none,[]⟩,
 ⟨some 2,.mov,[.c (.int .i64 0)],none,[]⟩] false)
 (.seq
 (.region [⟨some 6,(.load true 3),[.t 1],none,[]⟩,
 ⟨some 7,.call,[.f 48,.t 6],none,[0]⟩,
 ⟨some 5,.mov,[.t 7],none,[1]⟩,
 ⟨some 8,(.ext 0),[.t 5],none,[2]⟩,
 ⟨some 9,(.ext 1),[.t 5],none,[2]⟩,
 ⟨some 3,.mov,[.t 8],none,[3,1,0,1,2,3]⟩,
 ⟨some 4,.mov,[.t 9],none,[4,5,0,1,2,3,4,5]⟩] false)
 (.seq
 (.region [⟨some 10,.mov,[.t 4],none,[]⟩,
 ⟨some 2,.mov,[.t 10],none,[0,0]⟩] false)
 .ret)))
def d35:DFn:=⟨1,11,[.tmp 2],b35⟩
theorem body35:d35.body=b35:=rfl
theorem res35:d35.res=[.tmp 2]:=rfl
theorem k35:chkFn Try.prog Try.f35 d35=true:=by kernel_rfl
def b36:DCode :=
 (.seq
 (.region [⟨some 2,.mov,[.c (.bool false)],none,[]⟩] false)
 (.seq
 (.region [⟨some 3,.mov,[.t 0],none,[]⟩,
 ⟨some 4,.call,[.f 17,.t 3,.c (.int .i64 (-10000)),.c (.int .i64 10000)],none,[0]⟩,
 ⟨some 2,.mov,[.t 4],none,[1,1,0,1]⟩] false)
 .ret))
def d36:DFn:=⟨1,5,[.tmp 2],b36⟩
theorem body36:d36.body=b36:=rfl
theorem res36:d36.res=[.tmp 2]:=rfl
theorem k36:chkFn Try.prog Try.f36 d36=true:=by kernel_rfl
def b24k0:DCode :=
 (.seq
 (.region [⟨some 71,(.faddr 1 false 1),[.t 8],none,[]⟩,
 ⟨some 72,(.load false 1),[.t 71],none,[0]⟩,
 ⟨some 73,(.faddr 0 false 1),[.t 8],none,[]⟩,
 ⟨some 74,(.load false 1),[.t 73],none,[2]⟩,
 ⟨some 75,(.bin .gtr),[.t 72,.t 74],none,[1,3]⟩] false)
 (.cond (.t 75)
 (.seq
 (.region [⟨some 76,.mov,[.t 7],none,[]⟩,
 ⟨some 4,.mov,[.t 76],none,[0,0]⟩,
 ⟨some 5,.mov,[.c (.int .i64 9)],none,[1,0,1]⟩] false)
 .ret)
 .skip))
def b24k1:DCode :=
 (.region [⟨some 47,.mov,[.t 7],none,[]⟩,
 ⟨some 48,(.bin .add),[.t 47,.c (.int .i64 1)],none,[0]⟩,
 ⟨some 7,.mov,[.t 48],none,[1,0,1]⟩] false)
def b24k2:DCode :=
 (.seq
 (.block 1
 (.seq
 (.region [⟨some 49,(.faddr 3 false 1),[.t 3],none,[]⟩,
 ⟨some 50,(.load false 1),[.t 49],none,[0]⟩,
 ⟨some 51,.mov,[.t 7],none,[]⟩,
 ⟨some 52,(.iaddr 3),[.t 50,.t 51],none,[1,2]⟩,
 ⟨some 53,(.load true 3),[.t 52],none,[3]⟩,
 ⟨some 8,(.alloc [(.imm (.int .i64 0)),(.imm (.int .i64 0)),(.imm (.int .i64 0))]),[],none,[]⟩,
 ⟨none,(.store 3),[.t 8,.t 53],none,[5,4,0,1,2,3,4,5]⟩] false)
 (.seq
 (.seq
 (.region [⟨some 54,(.faddr 0 false 1),[.t 8],none,[]⟩,
 ⟨some 55,(.load false 1),[.t 54],none,[0]⟩,
 ⟨some 56,.call,[.f 36,.t 55],none,[1]⟩,
 ⟨some 57,(.un .not),[.t 56],none,[2]⟩,
 ⟨some 58,.mov,[.t 57],none,[3,2]⟩,
 ⟨some 59,(.faddr 1 false 1),[.t 8],(some (58,false)),[4]⟩,
 ⟨some 60,(.load false 1),[.t 59],(some (58,false)),[5,4]⟩,
 ⟨some 61,.call,[.f 36,.t 60],(some (58,false)),[6,4,4]⟩,
 ⟨some 62,(.un .not),[.t 61],(some (58,false)),[7,4]⟩,
 ⟨some 63,.pick,[.t 58,.c (.bool true),.t 62],none,[4,8]⟩,
 ⟨some 64,.mov,[.t 63],none,[9,7]⟩,
 ⟨some 65,(.faddr 2 false 1),[.t 8],(some (64,false)),[10]⟩,
 ⟨some 66,(.load false 1),[.t 65],(some (64,false)),[11,10]⟩,
 ⟨some 67,.call,[.f 36,.t 66],(some (64,false)),[12,10,10]⟩,
 ⟨some 68,(.un .not),[.t 67],(some (64,false)),[13,10]⟩,
 ⟨some 69,.pick,[.t 64,.c (.bool true),.t 68],none,[10,14]⟩] false)
 (.cond (.t 69)
 (.seq
 (.region [⟨some 70,.mov,[.t 7],none,[]⟩,
 ⟨some 4,.mov,[.t 70],none,[0,0]⟩,
 ⟨some 5,.mov,[.c (.int .i64 2)],none,[1,0,1]⟩] false)
 .ret)
 .skip))
 (.keep [3,7,8] [3,8] b24k0))))
 (.keep [3,7] [3] b24k1))
def b24l0:DCode:=.keep [3,7] [3]
 (.seq
 (.seq
 (.region [⟨some 42,.mov,[.t 7],none,[]⟩,
 ⟨some 43,(.faddr 3 false 1),[.t 3],none,[]⟩,
 ⟨some 44,(.load false 1),[.t 43],none,[1]⟩,
 ⟨some 45,.len,[.t 44],none,[2]⟩,
 ⟨some 46,(.bin .lss),[.t 42,.t 45],none,[0,3]⟩] false)
 (.cond (.t 46)
 .skip
 (.exit 0)))
 (.keep [3,7] [3] b24k2))
def b24k3:DCode :=
 (.seq
 (.region [⟨some 4,.mov,[.c (.int .i64 0)],none,[]⟩,
 ⟨some 5,.mov,[.c (.int .i64 0)],none,[0,0]⟩] false)
 .ret)
def b24k4:DCode :=
 (.seq
 (.seq
 (.region [⟨some 7,.mov,[.c (.int .i64 0)],none,[]⟩] false)
 (.block 0
 (.loop b24l0)))
 (.keep [] [] b24k3))
def b24k5:DCode :=
 (.seq
 (.seq
 (.region [⟨some 38,(.faddr 3 false 1),[.t 3],none,[]⟩,
 ⟨some 39,(.load false 1),[.t 38],none,[0]⟩,
 ⟨some 40,.len,[.t 39],none,[1]⟩,
 ⟨some 41,(.bin .gtr),[.t 40,.c (.int .i64 10)],none,[2]⟩] false)
 (.cond (.t 41)
 (.seq
 (.region [⟨some 4,.mov,[.c (.int .i64 0)],none,[]⟩,
 ⟨some 5,.mov,[.c (.int .i64 8)],none,[0,0]⟩] false)
 .ret)
 .skip))
 (.keep [3] [3] b24k4))
def b24k6:DCode :=
 (.seq
 (.seq
 (.region [⟨some 34,(.faddr 3 false 1),[.t 3],none,[]⟩,
 ⟨some 35,(.load false 1),[.t 34],none,[0]⟩,
 ⟨some 36,.len,[.t 35],none,[1]⟩,
 ⟨some 37,(.bin .eql),[.t 36,.c (.int .i64 0)],none,[2]⟩] false)
 (.cond (.t 37)
 (.seq
 (.region [⟨some 4,.mov,[.c (.int .i64 0)],none,[]⟩,
 ⟨some 5,.mov,[.c (.int .i64 10)],none,[0,0]⟩] false)
 .ret)
 .skip))
 (.keep [3] [3] b24k5))
def b24k7:DCode :=
 (.seq
 (.seq
 (.region [⟨some 30,(.faddr 2 false 1),[.t 3],none,[]⟩,
 ⟨some 31,(.load false 1),[.t 30],none,[0]⟩,
 ⟨some 32,.call,[.f 36,.t 31],none,[1]⟩,
 ⟨some 33,(.un .not),[.t 32],none,[2]⟩] false)
 (.cond (.t 33)
 (.seq
 (.region [⟨some 4,.mov,[.c (.int .i64 0)],none,[]⟩,
 ⟨some 5,.mov,[.c (.int .i64 2)],none,[0,0]⟩] false)
 .ret)
 .skip))
 (.keep [3] [3] b24k6))
def b24k8:DCode :=
 (.seq
 (.seq
 (.region [⟨some 22,(.faddr 1 false 1),[.t 3],none,[]⟩,
 ⟨some 23,(.load false 1),[.t 22],none,[0]⟩,
 ⟨some 24,(.faddr 2 false 1),[.t 2],none,[]⟩,
 ⟨some 25,(.load false 1),[.t 24],none,[2]⟩,
 ⟨some 26,.len,[.t 25],none,[3]⟩,
 ⟨some 27,(.bin .sub),[.t 26,.c (.int .i64 1)],none,[4]⟩,
 ⟨some 28,.call,[.f 17,.t 23,.c (.int .i64 0),.t 27],none,[1,5]⟩,
 ⟨some 29,(.un .not),[.t 28],none,[6]⟩] false)
 (.cond (.t 29)
 (.seq
 (.region [⟨some 4,.mov,[.c (.int .i64 0)],none,[]⟩,
 ⟨some 5,.mov,[.c (.int .i64 6)],none,[0,0]⟩] false)
 .ret)
 .skip))
 (.keep [3] [3] b24k7))
def b24k9:DCode :=
 (.seq
 (.seq
 (.region [⟨some 14,(.faddr 0 false 1),[.t 3],none,[]⟩,
 ⟨some 15,(.load false 1),[.t 14],none,[0]⟩,
 ⟨some 16,(.faddr 0 false 1),[.t 2],none,[]⟩,
 ⟨some 17,(.load false 1),[.t 16],none,[2]⟩,
 ⟨some 18,(.faddr 1 false 1),[.t 2],none,[]⟩,
 ⟨some 19,(.load false 1),[.t 18],none,[4]⟩,
 ⟨some 20,.call,[.f 17,.t 15,.t 17,.t 19],none,[1,3,5]⟩,
 ⟨some 21,(.un .not),[.t 20],none,[6]⟩] false)
 (.cond (.t 21)
 (.seq
 (.region [⟨some 4,.mov,[.c (.int .i64 0)],none,[]⟩,
 ⟨some 5,.mov,[.c (.int .i64 2)],none,[0,0]⟩] false)
 .ret)
 .skip))
 (.keep [2,3] [2,3] b24k8))
def b24:DCode :=
 (.seq
 (.region [⟨some 2,.box,[.t 0],none,[]⟩,
 ⟨some 3,.box,[.t 1],none,[]⟩,
 ⟨some 4,.mov,[.c (.int .i64 0)],none,[]⟩,
 ⟨some 5,.mov,[.c (.int .i64 0)],none,[2]⟩] false)
 (.seq
 (.seq
 (.region [⟨some 9,(.load true 3),[.t 2],none,[]⟩,
 ⟨some 10,.call,[.f 35,.t 9],none,[0]⟩,
 ⟨some 6,.mov,[.t 10],none,[1,1,0,1]⟩] false)
 (.seq
 (.region [⟨some 11,.mov,[.t 6],none,[]⟩,
 ⟨some 12,(.bin .neq),[.t 11,.c (.int .i64 0)],none,[0]⟩] false)
 (.cond (.t 12)
 (.seq
 (.region [⟨some 13,.mov,[.t 6],none,[]⟩,
 ⟨some 4,.mov,[.c (.int .i64 0)],none,[]⟩,
 ⟨some 5,.mov,[.t 13],none,[0,1,0,1]⟩] false)
 .ret)
 .skip)))
 (.keep [2,3] [2,3] b24k9)))
def d24:DFn:=⟨2,77,[.tmp 4,.tmp 5],b24⟩
theorem body24:d24.body=b24:=rfl
theorem res24:d24.res=[.tmp 4,.tmp 5]:=rfl
theorem k24:chkFn Try.prog Try.f24 d24=true:=by kernel_rfl
def b7:DCode :=
 (.seq
 (.region [⟨some 2,.box,[.t 0],none,[]⟩,
 ⟨some 3,.box,[.t 1],none,[]⟩,
 ⟨some 4,.mov,[.c (.int .i64 0)],none,[]⟩] false)
 (.seq
 (.region [⟨some 8,(.load true 3),[.t 2],none,[]⟩,
 ⟨some 9,(.load true 4),[.t 3],none,[]⟩,
 ⟨some 10,.call,[.f 24,.t 8,.t 9],none,[0,1]⟩,
 ⟨some 7,.mov,[.t 10],none,[2]⟩,
 ⟨some 11,(.ext 0),[.t 7],none,[3]⟩,
 ⟨some 12,(.ext 1),[.t 7],none,[3]⟩,
 ⟨some 5,.mov,[.t 11],none,[4,2,0,1,2,3,4]⟩,
 ⟨some 6,.mov,[.t 12],none,[5,6,0,1,2,3,4,5,6]⟩] false)
 (.seq
 (.region [⟨some 13,.mov,[.t 6],none,[]⟩,
 ⟨some 4,.mov,[.t 13],none,[0,0]⟩] false)
 .ret)))
def d7:DFn:=⟨2,14,[.tmp 4],b7⟩
theorem body7:d7.body=b7:=rfl
theorem res7:d7.res=[.tmp 4]:=rfl
theorem k7:chkFn Try.prog Try.f7 d7=true:=by kernel_rfl
def b8k0:DCode :=
 (.seq
 (.region [⟨some 4,.mov,[.c (.int .i64 0)],none,[]⟩] false)
 .ret)
def b8k1:DCode :=
 (.seq
 (.seq
 (.region [⟨some 13,(.faddr 1 false 1),[.t 3],none,[]⟩,
 ⟨some 14,(.load false 1),[.t 13],none,[0]⟩,
 ⟨some 15,.call,[.f 17,.t 14,.c (.int .i64 0),.c (.int .i64 10)],none,[1]⟩,
 ⟨some 16,(.un .not),[.t 15],none,[2]⟩] false)
 (.cond (.t 16)
 (.seq
 (.region [⟨some 4,.mov,[.c (.int .i64 2)],none,[]⟩] false)
 .ret)
 .skip))
 (.keep [] [] b8k0))
def b8:DCode :=
 (.seq
 (.region [⟨some 2,.box,[.t 0],none,[]⟩,
 ⟨some 3,.box,[.t 1],none,[]⟩,
 ⟨some 4,.mov,[.c (.int .i64 0)],none,[]⟩] false)
 (.seq
 (.seq
 (.region [⟨some 5,(.faddr 0 false 1),[.t 3],none,[]⟩,
 ⟨some 6,(.load false 1),[.t 5],none,[0]⟩,
 ⟨some 7,(.faddr 2 false 1),[.t 2],none,[]⟩,
 ⟨some 8,(.load false 1),[.t 7],none,[2]⟩,
 ⟨some 9,.len,[.t 8],none,[3]⟩,
 ⟨some 10,(.bin .sub),[.t 9,.c (.int .i64 1)],none,[4]⟩,
 ⟨some 11,.call,[.f 17,.t 6,.c (.int .i64 0),.t 10],none,[1,5]⟩,
 ⟨some 12,(.un .not),[.t 11],none,[6]⟩] false)
 (.cond (.t 12)
 (.seq
 (.region [⟨some 4,.mov,[.c (.int .i64 6)],none,[]⟩] false)
 .ret)
 .skip))
 (.keep [3] [3] b8k1)))
def d8:DFn:=⟨2,17,[.tmp 4],b8⟩
theorem body8:d8.body=b8:=rfl
theorem res8:d8.res=[.tmp 4]:=rfl
theorem k8:chkFn Try.prog Try.f8 d8=true:=by kernel_rfl
def b9k0:DCode :=
 (.region [⟨some 11,.mov,[.t 3],none,[]⟩,
 ⟨some 12,(.bin .add),[.t 11,.c (.int .i64 1)],none,[0]⟩,
 ⟨some 3,.mov,[.t 12],none,[1,0,1]⟩] false)
def b9k1:DCode :=
 (.seq
 (.block 1
 (.seq
 (.region [⟨some 13,.movv,[.t 0],none,[]⟩,
 ⟨some 14,.mov,[.t 3],none,[]⟩,
 ⟨some 15,(.iaddr 1),[.t 13,.t 14],none,[0,1]⟩,
 ⟨some 16,(.load false 1),[.t 15],none,[2]⟩,
 ⟨some 17,.call,[.f 17,.t 16,.c (.int .i64 (-1000000)),.c (.int .i64 1000000)],none,[3]⟩,
 ⟨some 18,(.un .not),[.t 17],none,[4]⟩] false)
 (.cond (.t 18)
 (.seq
 (.region [⟨some 2,.mov,[.c (.int .i64 2)],none,[]⟩] false)
 .ret)
 .skip)))
 (.keep [0,3] [] b9k0))
def b9l0:DCode:=.keep [0,3] []
 (.seq
 (.seq
 (.region [⟨some 7,.mov,[.t 3],none,[]⟩,
 ⟨some 8,.movv,[.t 0],none,[]⟩,
 ⟨some 9,.len,[.t 8],none,[1]⟩,
 ⟨some 10,(.bin .lss),[.t 7,.t 9],none,[0,2]⟩] false)
 (.cond (.t 10)
 .skip
 (.exit 0)))
 (.keep [0,3] [] b9k1))
def b9k2:DCode :=
 (.seq
 (.region [⟨some 2,.mov,[.c (.int .i64 0)],none,[]⟩] false)
 .ret)
def b9k3:DCode :=
 (.seq
 (.seq
 (.region [⟨some 3,.mov,[.c (.int .i64 0)],none,[]⟩] false)
 (.block 0
 (.loop b9l0)))
 (.keep [] [] b9k2))
def b9:DCode :=
 (.seq
 (.region [⟨some 2,.mov,[.c (.int .i64 0)],none,[]⟩] false)
 (.seq
 (.seq
 (.region [⟨some 4,.movv,[.t 0],none,[]⟩,
 ⟨some 5,.len,[.t 4],none,[0]⟩,
 ⟨some 6,(.bin .gtr),[.t 5,.c (.int .i64 300)],none,[1]⟩] false)
 (.cond (.t 6)
 (.seq
 (.region [⟨some 2,.mov,[.c (.int .i64 8)],none,[]⟩] false)
 .ret)
 .skip))
 (.keep [0] [] b9k3)))
def d9:DFn:=⟨1,19,[.tmp 2],b9⟩
theorem body9:d9.body=b9:=rfl
theorem res9:d9.res=[.tmp 2]:=rfl
theorem k9:chkFn Try.prog Try.f9 d9=true:=by kernel_rfl
def b11:DCode :=
 (.seq
 (.region [⟨some 1,.box,[.t 0],none,[]⟩,
 ⟨some 2,(.alloc [(.imm (.int .i64 0)),(.imm (.int .i64 0)),(.imm (.slc 4 []))]),[],none,[]⟩] false)
 (.seq
 (.region [⟨some 3,(.bsl 4),[],none,[]⟩,
 ⟨some 4,(.faddr 2 false 1),[.t 1],none,[]⟩,
 ⟨some 5,(.load false 1),[.t 4],none,[1]⟩,
 ⟨some 6,(.append 4 40 false),[.t 3,.t 5],none,[0,2]⟩,
 ⟨some 7,(.faddr 2 false 1),[.t 1],none,[0,1,2,3]⟩,
 ⟨none,(.store 1),[.t 7,.t 6],none,[4,3,3,0,1,2,3]⟩] false)
 (.seq
 (.region [⟨some 8,(.load true 3),[.t 1],none,[]⟩,
 ⟨none,(.store 3),[.t 2,.t 8],none,[0,0]⟩] false)
 .ret)))
def d11:DFn:=⟨1,9,[.cell 2 true 3],b11⟩
theorem body11:d11.body=b11:=rfl
theorem res11:d11.res=[.cell 2 true 3]:=rfl
theorem k11:chkFn Try.prog Try.f11 d11=true:=by kernel_rfl
def b12:DCode :=
 (.seq
 (.region [⟨some 1,.box,[.t 0],none,[]⟩,
 ⟨some 2,(.alloc [(.imm (.int .i64 0)),(.imm (.int .i64 0)),(.imm (.int .i64 0)),(.imm (.slc 3 []))]),[],none,[]⟩] false)
 (.seq
 (.region [⟨some 3,(.bsl 3),[],none,[]⟩,
 ⟨some 4,(.faddr 3 false 1),[.t 1],none,[]⟩,
 ⟨some 5,(.load false 1),[.t 4],none,[1]⟩,
 ⟨some 6,(.append 3 24 false),[.t 3,.t 5],none,[0,2]⟩,
 ⟨some 7,(.faddr 3 false 1),[.t 1],none,[0,1,2,3]⟩,
 ⟨none,(.store 1),[.t 7,.t 6],none,[4,3,3,0,1,2,3]⟩] false)
 (.seq
 (.region [⟨some 8,(.load true 4),[.t 1],none,[]⟩,
 ⟨none,(.store 4),[.t 2,.t 8],none,[0,0]⟩] false)
 .ret)))
def d12:DFn:=⟨1,9,[.cell 2 true 4],b12⟩
theorem body12:d12.body=b12:=rfl
theorem res12:d12.res=[.cell 2 true 4]:=rfl
theorem k12:chkFn Try.prog Try.f12 d12=true:=by kernel_rfl
def b5k0:DCode :=
 (.region [⟨some 13,.mov,[.t 3],none,[]⟩,
 ⟨some 14,(.bin .add),[.t 13,.c (.int .i64 1)],none,[0]⟩,
 ⟨some 3,.mov,[.t 14],none,[1,0,1]⟩] false)
def b5k1:DCode :=
 (.seq
 (.block 1
 (.seq
 (.region [⟨some 15,(.faddr 2 false 1),[.t 1],none,[]⟩,
 ⟨some 16,(.load false 1),[.t 15],none,[0]⟩,
 ⟨some 17,.mov,[.t 3],none,[]⟩,
 ⟨some 18,(.iaddr 4),[.t 16,.t 17],none,[1,2]⟩,
 ⟨some 19,(.faddr 0 false 1),[.t 18],none,[3]⟩,
 ⟨some 20,(.load false 1),[.t 19],none,[4]⟩,
 ⟨some 21,.slen,[.t 20],none,[5]⟩,
 ⟨some 22,(.bin .gtr),[.t 21,.c (.int .i64 20)],none,[6]⟩] false)
 (.cond (.t 22)
 (.seq
 (.region [⟨some 2,.mov,[.c (.bool false)],none,[]⟩] false)
 .ret)
 .skip)))
 (.keep [1,3] [1] b5k0))
def b5l0:DCode:=.keep [1,3] [1]
 (.seq
 (.seq
 (.region [⟨some 8,.mov,[.t 3],none,[]⟩,
 ⟨some 9,(.faddr 2 false 1),[.t 1],none,[]⟩,
 ⟨some 10,(.load false 1),[.t 9],none,[1]⟩,
 ⟨some 11,.len,[.t 10],none,[2]⟩,
 ⟨some 12,(.bin .lss),[.t 8,.t 11],none,[0,3]⟩] false)
 (.cond (.t 12)
 .skip
 (.exit 0)))
 (.keep [1,3] [1] b5k1))
def b5k2:DCode :=
 (.seq
 (.region [⟨some 2,.mov,[.c (.bool true)],none,[]⟩] false)
 .ret)
def b5k3:DCode :=
 (.seq
 (.seq
 (.region [⟨some 3,.mov,[.c (.int .i64 0)],none,[]⟩] false)
 (.block 0
 (.loop b5l0)))
 (.keep [] [] b5k2))
def b5:DCode :=
 (.seq
 (.region [⟨some 1,.box,[.t 0],none,[]⟩,
 ⟨some 2,.mov,[.c (.bool false)],none,[]⟩] false)
 (.seq
 (.seq
 (.region [⟨some 4,(.faddr 2 false 1),[.t 1],none,[]⟩,
 ⟨some 5,(.load false 1),[.t 4],none,[0]⟩,
 ⟨some 6,.len,[.t 5],none,[1]⟩,
 ⟨some 7,(.bin .gtr),[.t 6,.c (.int .i64 7)],none,[2]⟩] false)
 (.cond (.t 7)
 (.seq
 (.region [⟨some 2,.mov,[.c (.bool false)],none,[]⟩] false)
 .ret)
 .skip))
 (.keep [1] [1] b5k3)))
def d5:DFn:=⟨1,23,[.tmp 2],b5⟩
theorem body5:d5.body=b5:=rfl
theorem res5:d5.res=[.tmp 2]:=rfl
theorem k5:chkFn Try.prog Try.f5 d5=true:=by kernel_rfl
def b6:DCode :=
 (.seq
 (.region [⟨some 1,.box,[.t 0],none,[]⟩,
 ⟨some 2,.mov,[.c (.bool false)],none,[]⟩] false)
 (.seq
 (.region [⟨some 3,(.faddr 3 false 1),[.t 1],none,[]⟩,
 ⟨some 4,(.load false 1),[.t 3],none,[0]⟩,
 ⟨some 5,.len,[.t 4],none,[1]⟩,
 ⟨some 6,(.bin .leq),[.t 5,.c (.int .i64 12)],none,[2]⟩,
 ⟨some 2,.mov,[.t 6],none,[3,0,1,2,3]⟩] false)
 .ret))
def d6:DFn:=⟨1,7,[.tmp 2],b6⟩
theorem body6:d6.body=b6:=rfl
theorem res6:d6.res=[.tmp 2]:=rfl
theorem k6:chkFn Try.prog Try.f6 d6=true:=by kernel_rfl
def b22:DCode :=
 (.seq
 (.region [⟨some 0,(.alloc [(.imm (.int .i64 0)),(.imm (.int .i64 0)),(.imm (.slc 4 []))]),[],none,[]⟩] false)
 (.seq
 (.region [⟨some 1,(.build [(.imm (.str ⟨#[]⟩)),(.imm (.int .i64 0)),(.imm (.int .i64 0)),(.imm (.int .i64 0))] [(0,1)]),[.c (.str ⟨#[114,101,115,116]⟩)],none,[]⟩,
 ⟨some 2,(.build [(.imm (.str ⟨#[]⟩)),(.imm (.int .i64 0)),(.imm (.int .i64 0)),(.imm (.int .i64 0))] [(0,1),(1,1),(2,1),(3,1)]),[.c (.str ⟨#[112,117,109,112]⟩),.c (.int .i64 3),.c (.int .i64 (-4)),.c (.int .i64 5)],none,[]⟩,
 ⟨some 3,(.build [(.imm (.str ⟨#[]⟩)),(.imm (.int .i64 0)),(.imm (.int .i64 0)),(.imm (.int .i64 0))] [(0,1),(1,1),(2,1),(3,1)]),[.c (.str ⟨#[116,117,114,98,105,110,101]⟩),.c (.int .i64 (-3)),.c (.int .i64 3),.c (.int .i64 2)],none,[]⟩,
 ⟨some 4,(.bsl 4),[.t 1,.t 2,.t 3],none,[0,1,2]⟩,
 ⟨some 5,(.build [(.imm (.int .i64 0)),(.imm (.int .i64 0)),(.imm (.slc 4 []))] [(1,1),(2,1)]),[.c (.int .i64 10),.t 4],none,[3]⟩,
 ⟨none,(.store 3),[.t 0,.t 5],none,[4,0,1,2,3,4]⟩] false)
 .ret))
def d22:DFn:=⟨0,6,[.cell 0 true 3],b22⟩
theorem body22:d22.body=b22:=rfl
theorem res22:d22.res=[.cell 0 true 3]:=rfl
theorem k22:chkFn Try.prog Try.f22 d22=true:=by kernel_rfl
def b23:DCode :=
 (.seq
 (.region [⟨some 0,(.alloc [(.imm (.int .i64 0)),(.imm (.int .i64 0)),(.imm (.int .i64 0)),(.imm (.slc 3 []))]),[],none,[]⟩] false)
 (.seq
 (.region [⟨some 1,(.build [(.imm (.int .i64 0)),(.imm (.int .i64 0)),(.imm (.int .i64 0))] [(0,1),(1,1)]),[.c (.int .i64 2),.c (.int .i64 1)],none,[]⟩,
 ⟨some 2,(.build [(.imm (.int .i64 0)),(.imm (.int .i64 0)),(.imm (.int .i64 0))] [(0,1),(1,1),(2,1)]),[.c (.int .i64 12),.c (.int .i64 10),.c (.int .i64 1)],none,[]⟩,
 ⟨some 3,(.bsl 3),[.t 1,.t 2],none,[0,1]⟩,
 ⟨some 4,(.build [(.imm (.int .i64 0)),(.imm (.int .i64 0)),(.imm (.int .i64 0)),(.imm (.slc 3 []))] [(0,1),(2,1),(3,1)]),[.c (.int .i64 4),.c (.int .i64 1),.t 3],none,[2]⟩,
 ⟨none,(.store 4),[.t 0,.t 4],none,[3,0,1,2,3]⟩] false)
 .ret))
def d23:DFn:=⟨0,5,[.cell 0 true 4],b23⟩
theorem body23:d23.body=b23:=rfl
theorem res23:d23.res=[.cell 0 true 4]:=rfl
theorem k23:chkFn Try.prog Try.f23 d23=true:=by kernel_rfl
def b26k0:DCode :=
 (.region [⟨some 14,(.bin .add),[.t 7,.c (.int .i64 1)],none,[]⟩,
 ⟨some 7,.mov,[.t 14],none,[0]⟩] false)
def b26k1:DCode :=
 (.seq
 (.block 1
 (.seq
 (.region [⟨some 9,(.iaddr 1),[.t 5,.t 7],none,[]⟩,
 ⟨some 10,(.load false 1),[.t 9],none,[0]⟩,
 ⟨some 4,.mov,[.t 10],none,[1,0,1]⟩] false)
 (.seq
 (.region [⟨some 11,.mov,[.t 4],none,[]⟩,
 ⟨some 12,(.bin .neq),[.t 11,.c (.int .i64 0)],none,[0]⟩] false)
 (.cond (.t 12)
 (.seq
 (.region [⟨some 13,.mov,[.t 4],none,[]⟩,
 ⟨some 2,.mov,[.t 13],none,[0,0]⟩] false)
 .ret)
 .skip))))
 (.keep [5,6,7] [] b26k0))
def b26l0:DCode:=.keep [5,6,7] []
 (.seq
 (.region [⟨some 8,(.bin .lss),[.t 7,.t 6],none,[]⟩] false)
 (.seq
 (.cond (.t 8)
 .skip
 (.exit 0))
 (.keep [5,6,7] [] b26k1)))
def b26k2:DCode :=
 (.seq
 (.region [⟨some 2,.mov,[.c (.int .i64 0)],none,[]⟩] false)
 .ret)
def b26:DCode :=
 (.seq
 (.region [⟨some 2,.mov,[.c (.int .i64 0)],none,[]⟩] false)
 (.seq
 (.seq
 (.region [⟨some 5,.movv,[.t 0],none,[]⟩,
 ⟨some 6,.len,[.t 5],none,[0]⟩,
 ⟨some 7,.mov,[.c (.int .i64 0)],none,[]⟩] false)
 (.block 0
 (.loop b26l0)))
 (.keep [] [] b26k2)))
def d26:DFn:=⟨1,15,[.tmp 2],b26⟩
theorem body26:d26.body=b26:=rfl
theorem res26:d26.res=[.tmp 2]:=rfl
theorem k26:chkFn Try.prog Try.f26 d26=true:=by kernel_rfl
def b27k0:DCode :=
 (.seq
 (.region [⟨some 6,.mov,[.t 1],none,[]⟩,
 ⟨some 4,.mov,[.t 6],none,[0,0]⟩] false)
 .ret)
def b27:DCode :=
 (.seq
 (.region [⟨some 4,.mov,[.c (.int .i64 0)],none,[]⟩] false)
 (.seq
 (.seq
 (.region [⟨some 5,.mov,[.t 0],none,[]⟩] false)
 (.cond (.t 5)
 (.seq
 (.region [⟨some 4,.mov,[.c (.int .i64 0)],none,[]⟩] false)
 .ret)
 .skip))
 (.keep [1] [] b27k0)))
def d27:DFn:=⟨2,7,[.tmp 4],b27⟩
theorem body27:d27.body=b27:=rfl
theorem res27:d27.res=[.tmp 4]:=rfl
theorem k27:chkFn Try.prog Try.f27 d27=true:=by kernel_rfl
def b29:DCode :=
 (.seq
 (.region [⟨some 6,.mov,[.c (.bool false)],none,[]⟩] false)
 (.seq
 (.region [⟨some 7,.mov,[.t 1],none,[]⟩,
 ⟨some 8,.mov,[.t 0],none,[]⟩,
 ⟨some 9,(.bin .leq),[.t 7,.t 8],none,[0,1]⟩,
 ⟨some 10,.mov,[.t 9],none,[2]⟩,
 ⟨some 11,.mov,[.t 0],(some (10,true)),[3]⟩,
 ⟨some 12,.mov,[.t 2],(some (10,true)),[3]⟩,
 ⟨some 13,(.bin .leq),[.t 11,.t 12],(some (10,true)),[4,5,3]⟩,
 ⟨some 14,.pick,[.t 10,.t 13,.c (.bool false)],none,[3,6]⟩,
 ⟨some 6,.mov,[.t 14],none,[7,3,0,1,2,3,4,5,6,7]⟩] false)
 .ret))
def d29:DFn:=⟨3,15,[.tmp 6],b29⟩
theorem body29:d29.body=b29:=rfl
theorem res29:d29.res=[.tmp 6]:=rfl
theorem k29:chkFn Try.prog Try.f29 d29=true:=by kernel_rfl
def b46:DCode :=
 (.seq
 (.region [⟨some 4,.mov,[.c (.bool false)],none,[]⟩] false)
 (.seq
 (.region [⟨some 5,.mov,[.t 0],none,[]⟩,
 ⟨some 6,.mov,[.t 1],none,[]⟩,
 ⟨some 7,(.un .neg),[.t 6],none,[1]⟩,
 ⟨some 8,.mov,[.t 1],none,[]⟩,
 ⟨some 9,.call,[.f 29,.t 5,.t 7,.t 8],none,[0,2,3]⟩,
 ⟨some 4,.mov,[.t 9],none,[4,4,0,1,2,3,4]⟩] false)
 .ret))
def d46:DFn:=⟨2,10,[.tmp 4],b46⟩
theorem body46:d46.body=b46:=rfl
theorem res46:d46.res=[.tmp 4]:=rfl
theorem k46:chkFn Try.prog Try.f46 d46=true:=by kernel_rfl
def b61k0:DCode :=
 (.region [⟨some 34,(.bin .add),[.t 9,.c (.int .i64 1)],none,[]⟩,
 ⟨some 9,.mov,[.t 34],none,[0]⟩] false)
def b61k1:DCode :=
 (.seq
 (.block 1
 (.seq
 (.region [⟨some 11,.mov,[.t 9],none,[]⟩,
 ⟨some 12,(.iaddr 1),[.t 7,.t 9],none,[]⟩,
 ⟨some 13,(.load false 1),[.t 12],none,[1]⟩,
 ⟨some 3,.mov,[.t 11],none,[0,0,1,2]⟩,
 ⟨some 4,.mov,[.t 13],none,[2,3,0,1,2,3]⟩] false)
 (.seq
 (.region [⟨some 14,.mov,[.t 4],none,[]⟩,
 ⟨some 15,(.px (.bit .or)),[.t 14,.c (.int .u8 32)],none,[0]⟩,
 ⟨some 16,(.conv .i64),[.t 15],none,[1]⟩,
 ⟨some 17,.call,[.f 29,.t 16,.c (.int .i64 97),.c (.int .i64 122)],none,[2]⟩,
 ⟨some 5,.mov,[.t 17],none,[3,3,0,1,2,3]⟩] false)
 (.seq
 (.region [⟨some 18,.mov,[.t 5],none,[]⟩,
 ⟨some 19,(.un .not),[.t 18],none,[0]⟩,
 ⟨some 20,.mov,[.t 19],none,[1]⟩,
 ⟨some 21,.mov,[.t 3],(some (20,true)),[2]⟩,
 ⟨some 22,(.bin .eql),[.t 21,.c (.int .i64 0)],(some (20,true)),[3,2]⟩,
 ⟨some 23,.mov,[.t 22],(some (20,true)),[4,2,2]⟩,
 ⟨some 24,.mov,[.t 4],(some (23,false)),[5]⟩,
 ⟨some 25,(.bin .neq),[.t 24,.c (.int .u8 45)],(some (23,false)),[6,5]⟩,
 ⟨some 26,.mov,[.t 25],(some (23,false)),[7,5,5]⟩,
 ⟨some 27,.mov,[.t 4],(some (26,true)),[8]⟩,
 ⟨some 28,(.conv .i64),[.t 27],(some (26,true)),[9,8]⟩,
 ⟨some 29,.call,[.f 29,.t 28,.c (.int .i64 48),.c (.int .i64 57)],(some (26,true)),[10,8,8]⟩,
 ⟨some 30,(.un .not),[.t 29],(some (26,true)),[11,8]⟩,
 ⟨some 31,.pick,[.t 26,.t 30,.c (.bool false)],(some (23,false)),[8,12,5]⟩,
 ⟨some 32,.pick,[.t 23,.c (.bool true),.t 31],(some (20,true)),[5,13,2]⟩,
 ⟨some 33,.pick,[.t 20,.t 32,.c (.bool false)],none,[2,14]⟩] false)
 (.cond (.t 33)
 (.seq
 (.region [⟨some 2,.mov,[.c (.bool false)],none,[]⟩] false)
 .ret)
 .skip)))))
 (.keep [0,7,8,9] [] b61k0))
def b61l0:DCode:=.keep [0,7,8,9] []
 (.seq
 (.region [⟨some 10,(.bin .lss),[.t 9,.t 8],none,[]⟩] false)
 (.seq
 (.cond (.t 10)
 .skip
 (.exit 0))
 (.keep [0,7,8,9] [] b61k1)))
def b61k2:DCode :=
 (.seq
 (.region [⟨some 35,.mov,[.t 0],none,[]⟩,
 ⟨some 36,.slen,[.t 35],none,[0]⟩,
 ⟨some 37,.call,[.f 29,.t 36,.c (.int .i64 1),.c (.int .i64 12)],none,[1]⟩,
 ⟨some 2,.mov,[.t 37],none,[2,2,0,1,2]⟩] false)
 .ret)
def b61:DCode :=
 (.seq
 (.region [⟨some 2,.mov,[.c (.bool false)],none,[]⟩] false)
 (.seq
 (.seq
 (.region [⟨some 6,.mov,[.t 0],none,[]⟩,
 ⟨some 7,.s2b,[.t 6],none,[0]⟩,
 ⟨some 8,.len,[.t 7],none,[1]⟩,
 ⟨some 9,.mov,[.c (.int .i64 0)],none,[]⟩] false)
 (.block 0
 (.loop b61l0)))
 (.keep [0] [] b61k2)))
def d61:DFn:=⟨1,38,[.tmp 2],b61⟩
theorem body61:d61.body=b61:=rfl
theorem res61:d61.res=[.tmp 2]:=rfl
theorem k61:chkFn Try.prog Try.f61 d61=true:=by kernel_rfl
def b50:DCode :=
 (.seq
 (.region [⟨some 2,.mov,[.c (.bool false)],none,[]⟩] false)
 (.seq
 (.region [⟨some 3,.mov,[.t 0],none,[]⟩,
 ⟨some 4,.call,[.f 46,.t 3,.c (.int .i64 10000)],none,[0]⟩,
 ⟨some 2,.mov,[.t 4],none,[1,1,0,1]⟩] false)
 .ret))
def d50:DFn:=⟨1,5,[.tmp 2],b50⟩
theorem body50:d50.body=b50:=rfl
theorem res50:d50.res=[.tmp 2]:=rfl
theorem k50:chkFn Try.prog Try.f50 d50=true:=by kernel_rfl
def b49k0:DCode :=
 (.region [⟨some 92,(.bin .add),[.t 53,.c (.int .i64 1)],none,[]⟩,
 ⟨some 53,.mov,[.t 92],none,[0]⟩] false)
def b49k1:DCode :=
 (.seq
 (.block 1
 (.seq
 (.region [⟨some 55,.mov,[.t 53],none,[]⟩,
 ⟨some 56,(.iaddr 4),[.t 51,.t 53],none,[]⟩,
 ⟨some 57,(.load true 4),[.t 56],none,[1]⟩,
 ⟨some 7,(.alloc [(.imm (.str ⟨#[]⟩)),(.imm (.int .i64 0)),(.imm (.int .i64 0)),(.imm (.int .i64 0))]),[],none,[]⟩,
 ⟨some 6,.mov,[.t 55],none,[0,0,1,2,3]⟩,
 ⟨none,(.store 4),[.t 7,.t 57],none,[3,2,4,0,1,2,3,4]⟩] false)
 (.seq
 (.freeze [7]
 (.region [⟨some 58,(.faddr 2 false 1),[.t 1],none,[]⟩,
 ⟨some 59,(.load false 1),[.t 58],none,[0]⟩,
 ⟨some 60,.mov,[.t 6],none,[]⟩,
 ⟨some 61,(.slice 4 false true),[.t 59,.t 60],none,[1,2]⟩,
 ⟨some 62,(.mkfn 60 0),[.t 7],none,[]⟩,
 ⟨some 63,.call,[.f 59,.t 61,.t 62],none,[3,4]⟩,
 ⟨some 8,.mov,[.t 63],none,[5,5,0,1,2,3,4,5]⟩] false))
 (.seq
 (.region [⟨some 64,(.faddr 1 false 1),[.t 7],none,[]⟩,
 ⟨some 65,(.load false 1),[.t 64],none,[0]⟩,
 ⟨some 66,.call,[.f 46,.t 65,.c (.int .i64 10000)],none,[1]⟩,
 ⟨some 67,.mov,[.t 66],none,[2,2]⟩,
 ⟨some 68,(.faddr 2 false 1),[.t 7],(some (67,true)),[3]⟩,
 ⟨some 69,(.load false 1),[.t 68],(some (67,true)),[4,3]⟩,
 ⟨some 70,.call,[.f 46,.t 69,.c (.int .i64 10000)],(some (67,true)),[5,3,3]⟩,
 ⟨some 71,.pick,[.t 67,.t 70,.c (.bool false)],none,[3,6]⟩,
 ⟨some 72,.mov,[.t 71],none,[7,6]⟩,
 ⟨some 73,(.faddr 3 false 1),[.t 7],(some (72,true)),[8]⟩,
 ⟨some 74,(.load false 1),[.t 73],(some (72,true)),[9,8]⟩,
 ⟨some 75,.call,[.f 29,.t 74,.c (.int .i64 0),.c (.int .i64 10000)],(some (72,true)),[10,8,8]⟩,
 ⟨some 76,.pick,[.t 72,.t 75,.c (.bool false)],none,[8,11]⟩,
 ⟨some 9,.mov,[.t 76],none,[12,11,0,1,2,3,4,5,6,7,8,9,10,11,12]⟩] false)
 (.seq
 (.region [⟨some 77,(.faddr 0 false 1),[.t 7],none,[]⟩,
 ⟨some 78,(.load false 1),[.t 77],none,[0]⟩,
 ⟨some 79,.call,[.f 61,.t 78],none,[1]⟩,
 ⟨some 80,.call,[.f 27,.t 79,.c (.int .i64 4)],none,[2,2]⟩,
 ⟨some 81,.mov,[.t 8],none,[]⟩,
 ⟨some 82,(.un .not),[.t 81],none,[4]⟩,
 ⟨some 83,.call,[.f 27,.t 82,.c (.int .i64 5)],none,[5,3]⟩,
 ⟨some 84,.mov,[.t 9],none,[]⟩,
 ⟨some 85,.call,[.f 27,.t 84,.c (.int .i64 2)],none,[7,6]⟩,
 ⟨some 86,(.bsl 1),[.t 80,.t 83,.t 85],none,[3,6,8]⟩,
 ⟨some 87,.call,[.f 26,.t 86],none,[9,8]⟩,
 ⟨some 10,.mov,[.t 87],none,[10,10,0,1,2,3,4,5,6,7,8,9,10]⟩] false)
 (.seq
 (.region [⟨some 88,.mov,[.t 10],none,[]⟩,
 ⟨some 89,(.bin .neq),[.t 88,.c (.int .i64 0)],none,[0]⟩] false)
 (.cond (.t 89)
 (.seq
 (.region [⟨some 90,.mov,[.t 6],none,[]⟩,
 ⟨some 91,.mov,[.t 10],none,[]⟩,
 ⟨some 2,.mov,[.t 90],none,[0,0]⟩,
 ⟨some 3,.mov,[.t 91],none,[1,2,0,1,2]⟩] false)
 .ret)
 .skip)))))))
 (.keep [1,51,52,53] [1] b49k0))
def b49l0:DCode:=.keep [1,51,52,53] [1]
 (.seq
 (.region [⟨some 54,(.bin .lss),[.t 53,.t 52],none,[]⟩] false)
 (.seq
 (.cond (.t 54)
 .skip
 (.exit 0))
 (.keep [1,51,52,53] [1] b49k1)))
def b49k2:DCode :=
 (.seq
 (.region [⟨some 2,.mov,[.c (.int .i64 0)],none,[]⟩,
 ⟨some 3,.mov,[.c (.int .i64 0)],none,[0,0]⟩] false)
 .ret)
def b49k3:DCode :=
 (.seq
 (.seq
 (.region [⟨some 50,(.faddr 2 false 1),[.t 1],none,[]⟩,
 ⟨some 51,(.load false 1),[.t 50],none,[0]⟩,
 ⟨some 52,.len,[.t 51],none,[1]⟩,
 ⟨some 53,.mov,[.c (.int .i64 0)],none,[]⟩] false)
 (.block 0
 (.loop b49l0)))
 (.keep [] [] b49k2))
def b49:DCode :=
 (.seq
 (.region [⟨some 1,.box,[.t 0],none,[]⟩,
 ⟨some 2,.mov,[.c (.int .i64 0)],none,[]⟩,
 ⟨some 3,.mov,[.c (.int .i64 0)],none,[1]⟩] false)
 (.seq
 (.region [⟨some 4,.mov,[.f 58],none,[]⟩] false)
 (.seq
 (.region [⟨some 11,.mov,[.t 4],none,[]⟩,
 ⟨some 12,(.faddr 0 false 1),[.t 1],none,[]⟩,
 ⟨some 13,(.load false 1),[.t 12],none,[1]⟩,
 ⟨some 14,.call,[.t 11,.t 13],none,[0,2]⟩,
 ⟨some 15,.mov,[.t 14],none,[3,3]⟩,
 ⟨some 16,.mov,[.t 4],(some (15,true)),[4]⟩,
 ⟨some 17,(.faddr 1 false 1),[.t 1],(some (15,true)),[4]⟩,
 ⟨some 18,(.load false 1),[.t 17],(some (15,true)),[6,4]⟩,
 ⟨some 19,.call,[.t 16,.t 18],(some (15,true)),[5,7,4,4]⟩,
 ⟨some 20,.pick,[.t 15,.t 19,.c (.bool false)],none,[4,8]⟩,
 ⟨some 21,.call,[.f 27,.t 20,.c (.int .i64 2)],none,[9,8]⟩,
 ⟨some 22,(.faddr 0 false 1),[.t 1],none,[]⟩,
 ⟨some 23,(.load false 1),[.t 22],none,[11]⟩,
 ⟨some 24,(.faddr 1 false 1),[.t 1],none,[]⟩,
 ⟨some 25,(.load false 1),[.t 24],none,[13]⟩,
 ⟨some 26,(.bin .leq),[.t 23,.t 25],none,[12,14]⟩,
 ⟨some 27,.call,[.f 27,.t 26,.c (.int .i64 9)],none,[15,10]⟩,
 ⟨some 28,(.faddr 1 false 1),[.t 1],none,[]⟩,
 ⟨some 29,(.load false 1),[.t 28],none,[17]⟩,
 ⟨some 30,(.faddr 0 false 1),[.t 1],none,[]⟩,
 ⟨some 31,(.load false 1),[.t 30],none,[19]⟩,
 ⟨some 32,(.bin .sub),[.t 29,.t 31],none,[18,20]⟩,
 ⟨some 33,(.bin .lss),[.t 32,.c (.int .i64 40)],none,[21]⟩,
 ⟨some 34,.call,[.f 27,.t 33,.c (.int .i64 8)],none,[22,16]⟩,
 ⟨some 35,(.faddr 2 false 1),[.t 1],none,[]⟩,
 ⟨some 36,(.load false 1),[.t 35],none,[24]⟩,
 ⟨some 37,.len,[.t 36],none,[25]⟩,
 ⟨some 38,(.bin .gtr),[.t 37,.c (.int .i64 0)],none,[26]⟩,
 ⟨some 39,.call,[.f 27,.t 38,.c (.int .i64 10)],none,[27,23]⟩,
 ⟨some 40,(.faddr 2 false 1),[.t 1],none,[]⟩,
 ⟨some 41,(.load false 1),[.t 40],none,[29]⟩,
 ⟨some 42,.len,[.t 41],none,[30]⟩,
 ⟨some 43,(.bin .leq),[.t 42,.c (.int .i64 5)],none,[31]⟩,
 ⟨some 44,.call,[.f 27,.t 43,.c (.int .i64 8)],none,[32,28]⟩,
 ⟨some 45,(.bsl 1),[.t 21,.t 27,.t 34,.t 39,.t 44],none,[10,16,23,28,33]⟩,
 ⟨some 46,.call,[.f 26,.t 45],none,[34,33]⟩,
 ⟨some 5,.mov,[.t 46],none,[35,35,0,1,2,3,4,5,6,7,8,9,10,11,12,13,14,15,16,17,18,19,20,21,22,23,24,25,26,27,28,29,30,31,32,33,34,35]⟩] true)
 (.seq
 (.seq
 (.region [⟨some 47,.mov,[.t 5],none,[]⟩,
 ⟨some 48,(.bin .neq),[.t 47,.c (.int .i64 0)],none,[0]⟩] false)
 (.cond (.t 48)
 (.seq
 (.region [⟨some 49,.mov,[.t 5],none,[]⟩,
 ⟨some 2,.mov,[.c (.int .i64 0)],none,[]⟩,
 ⟨some 3,.mov,[.t 49],none,[0,1,0,1]⟩] false)
 .ret)
 .skip))
 (.keep [1] [1] b49k3)))))
def d49:DFn:=⟨1,93,[.tmp 2,.tmp 3],b49⟩
theorem body49:d49.body=b49:=rfl
theorem res49:d49.res=[.tmp 2,.tmp 3]:=rfl
theorem k49:chkFn Try.prog Try.f49 d49=true:=by kernel_rfl
def b58:DCode :=
 (.seq
 (.region [⟨some 2,.mov,[.c (.bool false)],none,[]⟩] false)
 (.seq
 (.region [⟨some 3,.mov,[.t 0],none,[]⟩,
 ⟨some 4,.call,[.f 29,.t 3,.c (.int .i64 0),.c (.int .i64 1000000)],none,[0]⟩,
 ⟨some 2,.mov,[.t 4],none,[1,1,0,1]⟩] false)
 .ret))
def d58:DFn:=⟨1,5,[.tmp 2],b58⟩
theorem body58:d58.body=b58:=rfl
theorem res58:d58.res=[.tmp 2]:=rfl
theorem k58:chkFn Try.prog Try.f58 d58=true:=by kernel_rfl
def b60:DCode :=
 (.seq
 (.region [⟨some 2,.box,[.t 0],none,[]⟩,
 ⟨some 3,.mov,[.c (.bool false)],none,[]⟩] false)
 (.seq
 (.region [⟨some 4,(.faddr 0 false 1),[.t 2],none,[]⟩,
 ⟨some 5,(.load false 1),[.t 4],none,[0]⟩,
 ⟨some 6,(.faddr 0 false 1),[.t 1],none,[]⟩,
 ⟨some 7,(.load false 1),[.t 6],none,[2]⟩,
 ⟨some 8,(.bin .eql),[.t 5,.t 7],none,[1,3]⟩,
 ⟨some 3,.mov,[.t 8],none,[4,0,1,2,3,4]⟩] false)
 .ret))
def d60:DFn:=⟨2,9,[.tmp 3],b60⟩
theorem body60:d60.body=b60:=rfl
theorem res60:d60.res=[.tmp 3]:=rfl
theorem k60:chkFn Try.prog Try.f60 d60=true:=by kernel_rfl
def b59:DCode :=
 (.seq
 (.region [⟨some 4,.mov,[.c (.bool false)],none,[]⟩] false)
 (.seq
 (.region [⟨some 5,.movv,[.t 0],none,[]⟩,
 ⟨some 6,.mov,[.t 1],none,[]⟩,
 ⟨some 7,.call,[.f 66,.t 5,.t 6],none,[0,1]⟩,
 ⟨some 8,(.bin .geq),[.t 7,.c (.int .i64 0)],none,[2]⟩,
 ⟨some 4,.mov,[.t 8],none,[3,2,0,1,2,3]⟩] false)
 .ret))
def d59:DFn:=⟨2,9,[.tmp 4],b59⟩
theorem body59:d59.body=b59:=rfl
theorem res59:d59.res=[.tmp 4]:=rfl
theorem k59:chkFn Try.prog Try.f59 d59=true:=by kernel_rfl
def b66k0:DCode :=
 (.region [⟨some 18,(.bin .add),[.t 8,.c (.int .i64 1)],none,[]⟩,
 ⟨some 8,.mov,[.t 18],none,[0]⟩] false)
def b66k1:DCode :=
 (.seq
 (.block 1
 (.seq
 (.region [⟨some 10,.mov,[.t 8],none,[]⟩,
 ⟨some 5,.mov,[.t 10],none,[0,0]⟩] false)
 (.seq
 (.region [⟨some 11,.mov,[.t 1],none,[]⟩,
 ⟨some 12,.movv,[.t 0],none,[]⟩,
 ⟨some 13,.mov,[.t 5],none,[]⟩,
 ⟨some 14,(.iaddr 4),[.t 12,.t 13],none,[1,2]⟩,
 ⟨some 15,(.load true 4),[.t 14],none,[3]⟩,
 ⟨some 16,.call,[.t 11,.t 15],none,[0,4]⟩] false)
 (.cond (.t 16)
 (.seq
 (.region [⟨some 17,.mov,[.t 5],none,[]⟩,
 ⟨some 4,.mov,[.t 17],none,[0,0]⟩] false)
 .ret)
 .skip))))
 (.keep [0,1,7,8] [] b66k0))
def b66l0:DCode:=.keep [0,1,7,8] []
 (.seq
 (.region [⟨some 9,(.bin .lss),[.t 8,.t 7],none,[]⟩] false)
 (.seq
 (.cond (.t 9)
 .skip
 (.exit 0))
 (.keep [0,1,7,8] [] b66k1)))
def b66k2:DCode :=
 (.seq
 (.region [⟨some 4,.mov,[.c (.int .i64 (-1))],none,[]⟩] false)
 .ret)
def b66:DCode :=
 (.seq
 (.region [⟨some 4,.mov,[.c (.int .i64 0)],none,[]⟩] false)
 (.seq
 (.seq
 (.region [⟨some 6,.movv,[.t 0],none,[]⟩,
 ⟨some 7,.len,[.t 6],none,[0]⟩,
 ⟨some 8,.mov,[.c (.int .i64 0)],none,[]⟩] false)
 (.block 0
 (.loop b66l0)))
 (.keep [] [] b66k2)))
def d66:DFn:=⟨2,19,[.tmp 4],b66⟩
theorem body66:d66.body=b66:=rfl
theorem res66:d66.res=[.tmp 4]:=rfl
theorem k66:chkFn Try.prog Try.f66 d66=true:=by kernel_rfl
def b37k0:DCode :=
 (.region [⟨some 86,(.bin .add),[.t 55,.c (.int .i64 1)],none,[]⟩,
 ⟨some 55,.mov,[.t 86],none,[0]⟩] false)
def b37k1:DCode :=
 (.seq
 (.block 1
 (.seq
 (.region [⟨some 57,.mov,[.t 55],none,[]⟩,
 ⟨some 58,(.iaddr 3),[.t 53,.t 55],none,[]⟩,
 ⟨some 59,(.load true 3),[.t 58],none,[1]⟩,
 ⟨some 9,(.alloc [(.imm (.int .i64 0)),(.imm (.int .i64 0)),(.imm (.int .i64 0))]),[],none,[]⟩,
 ⟨some 8,.mov,[.t 57],none,[0,0,1,2,3]⟩,
 ⟨none,(.store 3),[.t 9,.t 59],none,[3,2,4,0,1,2,3,4]⟩] false)
 (.seq
 (.region [⟨some 60,(.faddr 0 false 1),[.t 9],none,[]⟩,
 ⟨some 61,(.load false 1),[.t 60],none,[0]⟩,
 ⟨some 62,.call,[.f 50,.t 61],none,[1]⟩,
 ⟨some 63,.mov,[.t 62],none,[2,2]⟩,
 ⟨some 64,(.faddr 1 false 1),[.t 9],(some (63,true)),[3]⟩,
 ⟨some 65,(.load false 1),[.t 64],(some (63,true)),[4,3]⟩,
 ⟨some 66,.call,[.f 50,.t 65],(some (63,true)),[5,3,3]⟩,
 ⟨some 67,.pick,[.t 63,.t 66,.c (.bool false)],none,[3,6]⟩,
 ⟨some 68,.mov,[.t 67],none,[7,6]⟩,
 ⟨some 69,(.faddr 2 false 1),[.t 9],(some (68,true)),[8]⟩,
 ⟨some 70,(.load false 1),[.t 69],(some (68,true)),[9,8]⟩,
 ⟨some 71,.call,[.f 50,.t 70],(some (68,true)),[10,8,8]⟩,
 ⟨some 72,.pick,[.t 68,.t 71,.c (.bool false)],none,[8,11]⟩,
 ⟨some 73,.call,[.f 27,.t 72,.c (.int .i64 2)],none,[12,11]⟩,
 ⟨some 74,(.faddr 1 false 1),[.t 9],none,[]⟩,
 ⟨some 75,(.load false 1),[.t 74],none,[14]⟩,
 ⟨some 76,(.faddr 0 false 1),[.t 9],none,[]⟩,
 ⟨some 77,(.load false 1),[.t 76],none,[16]⟩,
 ⟨some 78,(.bin .leq),[.t 75,.t 77],none,[15,17]⟩,
 ⟨some 79,.call,[.f 27,.t 78,.c (.int .i64 9)],none,[18,13]⟩,
 ⟨some 80,(.bsl 1),[.t 73,.t 79],none,[13,19]⟩,
 ⟨some 81,.call,[.f 26,.t 80],none,[20,19]⟩,
 ⟨some 10,.mov,[.t 81],none,[21,21,0,1,2,3,4,5,6,7,8,9,10,11,12,13,14,15,16,17,18,19,20,21]⟩] true)
 (.seq
 (.region [⟨some 82,.mov,[.t 10],none,[]⟩,
 ⟨some 83,(.bin .neq),[.t 82,.c (.int .i64 0)],none,[0]⟩] false)
 (.cond (.t 83)
 (.seq
 (.region [⟨some 84,.mov,[.t 8],none,[]⟩,
 ⟨some 85,.mov,[.t 10],none,[]⟩,
 ⟨some 4,.mov,[.t 84],none,[0,0]⟩,
 ⟨some 5,.mov,[.t 85],none,[1,2,0,1,2]⟩] false)
 .ret)
 .skip)))))
 (.keep [53,54,55] [] b37k0))
def b37l0:DCode:=.keep [53,54,55] []
 (.seq
 (.region [⟨some 56,(.bin .lss),[.t 55,.t 54],none,[]⟩] false)
 (.seq
 (.cond (.t 56)
 .skip
 (.exit 0))
 (.keep [53,54,55] [] b37k1)))
def b37k2:DCode :=
 (.seq
 (.region [⟨some 4,.mov,[.c (.int .i64 0)],none,[]⟩,
 ⟨some 5,.mov,[.c (.int .i64 0)],none,[0,0]⟩] false)
 .ret)
def b37k3:DCode :=
 (.seq
 (.seq
 (.region [⟨some 52,(.faddr 3 false 1),[.t 3],none,[]⟩,
 ⟨some 53,(.load false 1),[.t 52],none,[0]⟩,
 ⟨some 54,.len,[.t 53],none,[1]⟩,
 ⟨some 55,.mov,[.c (.int .i64 0)],none,[]⟩] false)
 (.block 0
 (.loop b37l0)))
 (.keep [] [] b37k2))
def b37:DCode :=
 (.seq
 (.region [⟨some 2,.box,[.t 0],none,[]⟩,
 ⟨some 3,.box,[.t 1],none,[]⟩,
 ⟨some 4,.mov,[.c (.int .i64 0)],none,[]⟩,
 ⟨some 5,.mov,[.c (.int .i64 0)],none,[2]⟩] false)
 (.seq
 (.region [⟨some 12,(.load true 3),[.t 2],none,[]⟩,
 ⟨some 13,.call,[.f 49,.t 12],none,[0]⟩,
 ⟨some 11,.mov,[.t 13],none,[1]⟩,
 ⟨some 14,(.ext 0),[.t 11],none,[2]⟩,
 ⟨some 15,(.ext 1),[.t 11],none,[2]⟩,
 ⟨some 6,.mov,[.t 14],none,[3,1,0,1,2,3]⟩,
 ⟨some 7,.mov,[.t 15],none,[4,5,0,1,2,3,4,5]⟩] false)
 (.seq
 (.region [⟨some 16,.mov,[.t 7],none,[]⟩,
 ⟨some 17,(.faddr 0 false 1),[.t 3],none,[]⟩,
 ⟨some 18,(.load false 1),[.t 17],none,[1]⟩,
 ⟨some 19,(.faddr 0 false 1),[.t 2],none,[]⟩,
 ⟨some 20,(.load false 1),[.t 19],none,[3]⟩,
 ⟨some 21,(.faddr 1 false 1),[.t 2],none,[]⟩,
 ⟨some 22,(.load false 1),[.t 21],none,[5]⟩,
 ⟨some 23,.call,[.f 29,.t 18,.t 20,.t 22],none,[2,4,6]⟩,
 ⟨some 24,.call,[.f 27,.t 23,.c (.int .i64 2)],none,[7,7]⟩,
 ⟨some 25,(.faddr 1 false 1),[.t 3],none,[]⟩,
 ⟨some 26,(.load false 1),[.t 25],none,[9]⟩,
 ⟨some 27,(.faddr 2 false 1),[.t 2],none,[]⟩,
 ⟨some 28,(.load false 1),[.t 27],none,[11]⟩,
 ⟨some 29,.len,[.t 28],none,[12]⟩,
 ⟨some 30,(.bin .sub),[.t 29,.c (.int .i64 1)],none,[13]⟩,
 ⟨some 31,.call,[.f 29,.t 26,.c (.int .i64 0),.t 30],none,[10,14,8]⟩,
 ⟨some 32,.call,[.f 27,.t 31,.c (.int .i64 6)],none,[15,15]⟩,
 ⟨some 33,(.faddr 2 false 1),[.t 3],none,[]⟩,
 ⟨some 34,(.load false 1),[.t 33],none,[17]⟩,
 ⟨some 35,.call,[.f 50,.t 34],none,[18,16]⟩,
 ⟨some 36,.call,[.f 27,.t 35,.c (.int .i64 2)],none,[19,19]⟩,
 ⟨some 37,(.faddr 3 false 1),[.t 3],none,[]⟩,
 ⟨some 38,(.load false 1),[.t 37],none,[21]⟩,
 ⟨some 39,.len,[.t 38],none,[22]⟩,
 ⟨some 40,(.bin .gtr),[.t 39,.c (.int .i64 0)],none,[23]⟩,
 ⟨some 41,.call,[.f 27,.t 40,.c (.int .i64 10)],none,[24,20]⟩,
 ⟨some 42,(.faddr 3 false 1),[.t 3],none,[]⟩,
 ⟨some 43,(.load false 1),[.t 42],none,[26]⟩,
 ⟨some 44,.len,[.t 43],none,[27]⟩,
 ⟨some 45,(.bin .leq),[.t 44,.c (.int .i64 10)],none,[28]⟩,
 ⟨some 46,.call,[.f 27,.t 45,.c (.int .i64 8)],none,[29,25]⟩,
 ⟨some 47,(.bsl 1),[.t 16,.t 24,.t 32,.t 36,.t 41,.t 46],none,[0,8,16,20,25,30]⟩,
 ⟨some 48,.call,[.f 26,.t 47],none,[31,30]⟩,
 ⟨some 7,.mov,[.t 48],none,[32,32,0,1,2,3,4,5,6,7,8,9,10,11,12,13,14,15,16,17,18,19,20,21,22,23,24,25,26,27,28,29,30,31,32]⟩] true)
 (.seq
 (.seq
 (.region [⟨some 49,.mov,[.t 7],none,[]⟩,
 ⟨some 50,(.bin .neq),[.t 49,.c (.int .i64 0)],none,[0]⟩] false)
 (.cond (.t 50)
 (.seq
 (.region [⟨some 51,.mov,[.t 7],none,[]⟩,
 ⟨some 4,.mov,[.c (.int .i64 0)],none,[]⟩,
 ⟨some 5,.mov,[.t 51],none,[0,1,0,1]⟩] false)
 .ret)
 .skip))
 (.keep [3] [3] b37k3)))))
def d37:DFn:=⟨2,87,[.tmp 4,.tmp 5],b37⟩
theorem body37:d37.body=b37:=rfl
theorem res37:d37.res=[.tmp 4,.tmp 5]:=rfl
theorem k37:chkFn Try.prog Try.f37 d37=true:=by kernel_rfl
def b25:DCode :=
 (.seq
 (.region [⟨some 2,.box,[.t 0],none,[]⟩,
 ⟨some 3,.box,[.t 1],none,[]⟩,
 ⟨some 4,(.alloc [(.imm (.int .i64 0)),(.imm (.int .i64 0)),(.imm (.slc 4 [])),(.imm (.int .i64 0)),(.imm (.int .i64 0)),(.imm (.int .i64 0)),(.imm (.slc 3 []))]),[],none,[]⟩,
 ⟨some 5,.mov,[.c (.int .i64 0)],none,[]⟩] false)
 (.seq
 (.region [⟨some 9,(.load true 3),[.t 2],none,[]⟩,
 ⟨some 10,(.load true 4),[.t 3],none,[]⟩,
 ⟨some 11,.call,[.f 37,.t 9,.t 10],none,[0,1]⟩,
 ⟨some 8,.mov,[.t 11],none,[2]⟩,
 ⟨some 12,(.ext 0),[.t 8],none,[3]⟩,
 ⟨some 13,(.ext 1),[.t 8],none,[3]⟩,
 ⟨some 6,.mov,[.t 12],none,[4,2,0,1,2,3,4]⟩,
 ⟨some 7,.mov,[.t 13],none,[5,6,0,1,2,3,4,5,6]⟩] false)
 (.seq
 (.region [⟨some 14,(.load true 3),[.t 2],none,[]⟩,
 ⟨some 15,(.load true 4),[.t 3],none,[]⟩,
 ⟨some 16,(.build [(.imm (.int .i64 0)),(.imm (.int .i64 0)),(.imm (.slc 4 [])),(.imm (.int .i64 0)),(.imm (.int .i64 0)),(.imm (.int .i64 0)),(.imm (.slc 3 []))] [(0,3),(3,4)]),[.t 14,.t 15],none,[0,1]⟩,
 ⟨some 17,.mov,[.t 7],none,[]⟩,
 ⟨none,(.store 7),[.t 4,.t 16],none,[2,0,1,2]⟩,
 ⟨some 5,.mov,[.t 17],none,[3,4,0,1,2,3,4]⟩] false)
 .ret)))
def d25:DFn:=⟨2,18,[.cell 4 true 7,.tmp 5],b25⟩
theorem body25:d25.body=b25:=rfl
theorem res25:d25.res=[.cell 4 true 7,.tmp 5]:=rfl
theorem k25:chkFn Try.prog Try.f25 d25=true:=by kernel_rfl
end Go.DI

/- Plans of a day: possible hours, what follows, the best plan, activations and their settlement; plain. No condition. -/
namespace Go.DI
structure Md where
 nm:ByteArray
 ch:Int
 en:Int
 st:Int
structure Hr where
 buy:Int
 sell:Int
 inf:Int
structure Wk where
 lo:Int
 hi:Int
 ms:List Md
 vol:Int
 mode:Int
 worth:Int
 hs:List Hr
structure Hld where
 mode:Int
 hours:Int
instance:Inhabited Md:=⟨⟨default,0,0,0⟩⟩
instance:Inhabited Hr:=⟨⟨0,0,0⟩⟩
def isVol (w:Wk) (v:Int):Prop:=w.lo≤v∧v≤w.hi
instance {w:Wk} {v:Int}:Decidable (isVol w v):=by unfold isVol; infer_instance
def aft (w:Wk) (v:Int) (h m:Nat):Int:=v+(w.hs.getD h default).inf+(w.ms.getD m default).ch
def revW (w:Wk) (h b m:Nat):Int:=(w.ms.getD m default).en * (if 0<(w.ms.getD m default).en then (w.hs.getD h default).sell else (w.hs.getD h default).buy) - (if b=m then 0 else (w.ms.getD m default).st)
def givenN (w:Wk) (m:Nat):Nat→Int→Nat
 | 0,_=>0
 | k+1,v=>if isVol w (aft w v (w.hs.length - (k+1)) m) then givenN w m k (aft w v (w.hs.length - (k+1)) m)+1 else 0
def holdsW (w:Wk) (x:Hld) (k:Nat) (v:Int):Prop:=x.mode<0∨min x.hours k≤givenN w x.mode.toNat k v
instance {w:Wk} {x:Hld} {k:Nat} {v:Int}:Decidable (holdsW w x k v):=by unfold holdsW; infer_instance
def mxF (f:Nat→Option Int) (a:Int) (m:Nat):Int:=match f m with
 | some y=>max a y
 | none=>a
def potV (w:Wk) (x:Hld):Nat→Int→Nat→Int
 | 0,v,_=>w.worth * v
 | k+1,v,b=>if holdsW w x (k+1) v then (List.range w.ms.length).foldl (mxF fun m=>if isVol w (aft w v (w.hs.length - (k+1)) m) then some (revW w (w.hs.length - (k+1)) b m+potV w x k (aft w v (w.hs.length - (k+1)) m) m) else none) (-100000000000) else -100000000000
def optV (w:Wk) (x:Hld) (k:Nat) (v:Int) (b m:Nat):Option Int:=if isVol w (aft w v (w.hs.length - (k+1)) m) then some (revW w (w.hs.length - (k+1)) b m+potV w x k (aft w v (w.hs.length - (k+1)) m) m) else none
theorem potV_succ {w:Wk} {x:Hld} {k:Nat} {v:Int} {b:Nat}:potV w x (k+1) v b=if holdsW w x (k+1) v then (List.range w.ms.length).foldl (mxF (optV w x k v b)) (-100000000000) else -100000000000:=rfl
theorem mxF_ge (f:Nat→Option Int) (a:Int) (m:Nat):a≤mxF f a m:=by
 unfold mxF
 split <;> omega
theorem mx_ge (f:Nat→Option Int):∀ (l:List Nat) (a:Int),a≤l.foldl (mxF f) a
 | [],a=>Int.le_refl a
 | m :: l,a=>Int.le_trans (mxF_ge f a m) (mx_ge f l _)
theorem mx_att (f:Nat→Option Int):∀ (l:List Nat) (a:Int),l.foldl (mxF f) a=a∨∃ m ∈ l,f m=some (l.foldl (mxF f) a)
 | [],a=>.inl rfl
 | n :: l,a=>by
  show l.foldl (mxF f) (mxF f a n)=a∨∃ m ∈ n :: l,f m=some (l.foldl (mxF f) (mxF f a n))
  rcases mx_att f l (mxF f a n) with h | ⟨m,hm,h⟩
  ·rw [h]
   unfold mxF
   cases e:f n with
   | none=>exact .inl rfl
   | some y =>
    show max a y=a∨∃ m ∈ n :: l,f m=some (max a y)
    by_cases hy:y≤a
    ·exact .inl (by omega)
    ·exact .inr ⟨n,List.mem_cons_self ..,by rw [e]; congr 1; omega⟩
  ·exact .inr ⟨m,List.mem_cons_of_mem _ hm,h⟩
theorem mx_mono {f g:Nat→Option Int} (h:∀ m y,f m=some y→∃ z,g m=some z∧y≤z):∀ (l:List Nat) (a b:Int),a≤b→l.foldl (mxF f) a≤l.foldl (mxF g) b
 | [],_,_,hab=>hab
 | m :: l,a,b,hab=>by
  refine mx_mono h l _ _ ?_
  have hb:=mxF_ge g b m
  cases e:f m with
  | none =>
   unfold mxF at hb ⊢
   rw [e]
   exact Int.le_trans hab hb
  | some y =>
   obtain ⟨z,hz,hyz⟩:=h m y e
   unfold mxF
   rw [e,hz]
   show max a y≤max b z
   omega
structure WkOk (w:Wk):Prop where
 lo : 0≤w.lo
 lh:w.lo≤w.hi
 hi:w.hi≤1000000
 span:w.hi - w.lo<40
 m0 : 0<w.ms.length
 m5:w.ms.length≤5
 ms:∀ m ∈ w.ms,(-10000≤m.ch∧m.ch≤10000)∧(-10000≤m.en∧m.en≤10000)∧0≤m.st∧m.st≤10000
 vol:w.lo≤w.vol∧w.vol≤w.hi
 mode : 0≤w.mode∧w.mode<w.ms.length
 worth : -10000≤w.worth∧w.worth≤10000
 h0 : 0<w.hs.length
 h10:w.hs.length≤10
 hs:∀ h ∈ w.hs,(-10000≤h.buy∧h.buy≤10000)∧(-10000≤h.sell∧h.sell≤10000)∧(-10000≤h.inf∧h.inf≤10000)
theorem WkOk.md {w:Wk} (ok:WkOk w) (m:Nat):(-10000≤(w.ms.getD m default).ch∧(w.ms.getD m default).ch≤10000)∧(-10000≤(w.ms.getD m default).en∧(w.ms.getD m default).en≤10000)∧0≤(w.ms.getD m default).st∧(w.ms.getD m default).st≤10000:=by
 rw [List.getD_eq_getElem?_getD]
 cases e:w.ms[m]? with
 | none=>exact ⟨⟨by decide,by decide⟩,⟨by decide,by decide⟩,by decide,by decide⟩
 | some x=>exact ok.ms x (List.mem_of_getElem? e)
theorem WkOk.hr {w:Wk} (ok:WkOk w) (h:Nat):(-10000≤(w.hs.getD h default).buy∧(w.hs.getD h default).buy≤10000)∧(-10000≤(w.hs.getD h default).sell∧(w.hs.getD h default).sell≤10000)∧(-10000≤(w.hs.getD h default).inf∧(w.hs.getD h default).inf≤10000):=by
 rw [List.getD_eq_getElem?_getD]
 cases e:w.hs[h]? with
 | none=>exact ⟨⟨by decide,by decide⟩,⟨by decide,by decide⟩,by decide,by decide⟩
 | some x=>exact ok.hs x (List.mem_of_getElem? e)
theorem mul_bd {a b A B:Int} (h1 : -A≤a∧a≤A) (h2 : -B≤b∧b≤B) : -(A * B)≤a * b∧a * b≤A * B:=by
 have e:(a * b).natAbs=a.natAbs * b.natAbs:=Int.natAbs_mul a b
 have ha:a.natAbs≤A.toNat:=by omega
 have hb:b.natAbs≤B.toNat:=by omega
 have hm:=Nat.mul_le_mul ha hb
 have hc:((A.toNat * B.toNat:Nat):Int)=A * B:=by
  rw [Int.natCast_mul,Int.toNat_of_nonneg (by omega),Int.toNat_of_nonneg (by omega)]
 omega
theorem price_bd {w:Wk} (ok:WkOk w) (h m:Nat) : -100000000≤(w.ms.getD m default).en * (if 0<(w.ms.getD m default).en then (w.hs.getD h default).sell else (w.hs.getD h default).buy)∧(w.ms.getD m default).en * (if 0<(w.ms.getD m default).en then (w.hs.getD h default).sell else (w.hs.getD h default).buy)≤100000000:=by
 have hm:=(ok.md m).2.1
 have hh:=ok.hr h
 have hp : -10000≤(if 0<(w.ms.getD m default).en then (w.hs.getD h default).sell else (w.hs.getD h default).buy)∧(if 0<(w.ms.getD m default).en then (w.hs.getD h default).sell else (w.hs.getD h default).buy)≤10000:=by
  split
  ·exact hh.2.1
  ·exact hh.1
 have:=mul_bd (A:=10000) (B:=10000) ⟨hm.1,hm.2⟩ ⟨hp.1,hp.2⟩
 omega
theorem rev_bd {w:Wk} (ok:WkOk w) (h b m:Nat) : -100010000≤revW w h b m∧revW w h b m≤100010000:=by
 have h1:=price_bd ok h m
 have h2:=(ok.md m).2.2
 unfold revW
 generalize (w.ms.getD m default).en * _=p at *
 split <;> omega
theorem worth_bd {w:Wk} (ok:WkOk w) {v:Int} (hv:isVol w v) : -10000000000≤w.worth * v∧w.worth * v≤10000000000:=by
 obtain ⟨h1,h2⟩:=hv
 have:=ok.lo; have:=ok.hi
 have:=mul_bd (A:=10000) (B:=1000000) ⟨ok.worth.1,ok.worth.2⟩ (show -1000000≤v∧v≤1000000 by omega)
 omega
theorem pot_cases {w:Wk} (ok:WkOk w) (x:Hld):∀ (k:Nat) (v:Int) (b:Nat),isVol w v →
  (-100000000000≤potV w x k v b∧potV w x k v b ≤ -100000000000+100010000 * k)∨(-10000000000 - 100010000 * k≤potV w x k v b∧potV w x k v b≤10000000000+100010000 * k)
 | 0,v,b,hv=>by
  have:=worth_bd ok hv
  show (-100000000000≤w.worth * v∧w.worth * v≤_)∨(_≤w.worth * v∧w.worth * v≤_)
  omega
 | k+1,v,b,hv=>by
  rw [potV_succ]
  split
  ·have hge:=mx_ge (optV w x k v b) (List.range w.ms.length) (-100000000000)
   rcases mx_att (optV w x k v b) (List.range w.ms.length) (-100000000000) with h | ⟨m,_,h⟩
   ·rw [h]; omega
   ·generalize List.foldl _ _ _=y at *
    unfold optV at h
    split at h
    ·rename_i hv'
     injection h with h
     have hr:=rev_bd ok (w.hs.length - (k+1)) b m
     have ih:=pot_cases ok x k _ m hv'
     rw [Int.natCast_add]
     omega
    ·cases h
  ·omega
theorem pot_bd {w:Wk} (ok:WkOk w) (x:Hld) {k:Nat} (hk:k≤10) {v:Int} {b:Nat} (hv:isVol w v) : -100000000000≤potV w x k v b∧potV w x k v b≤20000000000:=by
 have:=pot_cases ok x k v b hv
 omega
theorem pot_real {w:Wk} (ok:WkOk w) (x:Hld) {k:Nat} (hk:k≤10) {v:Int} {b:Nat} (hv:isVol w v) (h : -90000000000<potV w x k v b) : -20000000000≤potV w x k v b∧potV w x k v b≤20000000000:=by
 have:=pot_cases ok x k v b hv
 omega
theorem pot_mono {w:Wk} {x y:Hld} (h:∀ k v,holdsW w x k v→holdsW w y k v):∀ (k:Nat) (v:Int) (b:Nat),potV w x k v b≤potV w y k v b
 | 0,_,_=>Int.le_refl _
 | k+1,v,b=>by
  rw [potV_succ,potV_succ]
  split
  ·rename_i hx
   rw [if_pos (h _ _ hx)]
   refine mx_mono (fun m z hz => ?_) _ _ _ (Int.le_refl _)
   unfold optV at hz ⊢
   split at hz
   ·rename_i hv
    injection hz with hz
    refine ⟨_,if_pos hv,?_⟩
    have:=pot_mono h k (aft w v (w.hs.length - (k+1)) m) m
    omega
   ·cases hz
  ·split
   ·exact mx_ge _ _ _
   ·exact Int.le_refl _
theorem holds_none {w:Wk} {x:Hld} {n:Int} (k:Nat) (v:Int) (_:holdsW w x k v):holdsW w ⟨-1,n⟩ k v:=.inl (by show (-1:Int)<0; decide)
theorem holds_less {w:Wk} {m n:Int} (k:Nat) (v:Int) (h:holdsW w ⟨m,n⟩ k v):holdsW w ⟨m,n - 1⟩ k v:=by
 rcases h with h | h
 ·exact .inl h
 ·refine .inr ?_
  have h:min n (k:Int)≤(givenN w m.toNat k v:Int):=h
  show min (n - 1) (k:Int)≤(givenN w m.toNat k v:Int)
  omega
def hits (w:Wk) (x:Hld) (k:Nat) (v:Int) (b m:Nat):Prop:=optV w x k v b m=some (potV w x (k+1) v b)
instance {w:Wk} {x:Hld} {k:Nat} {v:Int} {b m:Nat}:Decidable (hits w x k v b m):=by unfold hits; infer_instance
def pickM (w:Wk) (x:Hld) (k:Nat) (v:Int) (b:Nat):Option Nat:=(List.range w.ms.length).find? fun m=>decide (hits w x k v b m)
def planW (w:Wk) (x:Hld):Nat→Int→Nat→List Nat
 | 0,_,_=>[]
 | k+1,v,b=>match pickM w x k v b with
  | some m=>m :: planW w x k (aft w v (w.hs.length - (k+1)) m) m
  | none=>planW w x k v b
theorem pick_real {w:Wk} (ok:WkOk w) (x:Hld) {k:Nat} (hk:k+1≤10) {v:Int} {b:Nat} (hv:isVol w v) (h : -90000000000<potV w x (k+1) v b) :
  ∃ m,pickM w x k v b=some m∧m<w.ms.length∧holdsW w x (k+1) v∧isVol w (aft w v (w.hs.length - (k+1)) m) ∧ -90000000000<potV w x k (aft w v (w.hs.length - (k+1)) m) m:=by
 have hr:=pot_real ok x hk hv h
 have hh:holdsW w x (k+1) v:=by
  apply Decidable.byContradiction
  intro hn
  rw [potV_succ,if_neg hn] at h
  omega
 cases hp:pickM w x k v b with
 | none =>
  exfalso
  have hno:=List.find?_eq_none.1 hp
  rcases mx_att (optV w x k v b) (List.range w.ms.length) (-100000000000) with e | ⟨m,hm,e⟩
  ·rw [potV_succ,if_pos hh,e] at h
   omega
  ·refine hno m hm (decide_eq_true ?_)
   unfold hits
   rw [e,potV_succ,if_pos hh]
 | some m =>
  have hm:=List.find?_some hp
  have hm:=of_decide_eq_true hm
  have hl:=List.mem_range.1 (List.mem_of_find?_eq_some hp)
  unfold hits optV at hm
  split at hm
  ·rename_i hv'
   injection hm with hm
   have hb:=rev_bd ok (w.hs.length - (k+1)) b m
   have:=pot_cases ok x k _ m hv'
   exact ⟨m,rfl,hl,hh,hv',by omega⟩
  ·cases hm
def volsW (w:Wk):Nat→Int→List Nat→List Int
 | _,v,[]=>[v]
 | h,v,m :: r=>v :: volsW w (h+1) (aft w v h m) r
theorem volsW_len (w:Wk):∀ (h:Nat) (v:Int) (l:List Nat),(volsW w h v l).length=l.length+1
 | _,_,[]=>rfl
 | h,v,m :: r=>by
  unfold volsW
  rw [List.length_cons,volsW_len w (h+1) _ r,List.length_cons]
theorem plan_ok {w:Wk} (ok:WkOk w) (x:Hld):∀ (k:Nat),k≤w.hs.length→∀ (v:Int) (b:Nat),isVol w v → -90000000000<potV w x k v b →
  (planW w x k v b).length=k∧(∀ m ∈ planW w x k v b,m<w.ms.length)∧(∀ u ∈ volsW w (w.hs.length - k) v (planW w x k v b),isVol w u) ∧
  ∀ j,j<k→holdsW w x (k - j) ((volsW w (w.hs.length - k) v (planW w x k v b)).getD j 0)
 | 0,_,v,b,hv,_=>by
  refine ⟨rfl,?_,?_,fun j hj=>absurd hj (Nat.not_lt_zero _)⟩
  ·intro m hm
   cases hm
  ·intro u hu
   rw [List.mem_singleton.1 hu]
   exact hv
 | k+1,hk,v,b,hv,h=>by
  have:=ok.h10
  obtain ⟨m,hp,hl,hh,hv',hr⟩:=pick_real ok x (by omega) hv h
  obtain ⟨i1,i2,i3,i4⟩:=plan_ok ok x k (by omega) _ m hv' hr
  have e:planW w x (k+1) v b=m :: planW w x k (aft w v (w.hs.length - (k+1)) m) m:=by
   show (match pickM w x k v b with | some m=>m :: planW w x k (aft w v (w.hs.length - (k+1)) m) m | none=>planW w x k v b)=_
   rw [hp]
  have eh:w.hs.length - (k+1)+1=w.hs.length - k:=by omega
  rw [e]
  unfold volsW
  rw [eh]
  refine ⟨by rw [List.length_cons,i1],fun q hq => ?_,fun u hu => ?_,fun j hj => ?_⟩
  ·rcases List.mem_cons.1 hq with rfl | hq
   ·exact hl
   ·exact i2 q hq
  ·rcases List.mem_cons.1 hu with rfl | hu
   ·exact hv
   ·exact i3 u hu
  ·cases j with
   | zero=>exact hh
   | succ j =>
    rw [show k+1 - (j+1)=k - j by omega]
    exact i4 j (by omega)
def actW (w:Wk) (m h:Nat) (v:Int):Nat→Int
 | 0=>v
 | j+1=>aft w (actW w m h v j) (h+j) m
theorem act_shift {w:Wk} {m h:Nat} {v:Int}:∀ j,actW w m h v (j+1)=actW w m (h+1) (aft w v h m) j
 | 0=>rfl
 | j+1=>by
  show aft w (actW w m h v (j+1)) (h+(j+1)) m=aft w (actW w m (h+1) (aft w v h m) j) (h+1+j) m
  rw [act_shift j,show h+(j+1)=h+1+j by omega]
theorem given_vol {w:Wk} {m:Nat}:∀ (k:Nat),k≤w.hs.length→∀ (v:Int) (j:Nat),isVol w v→j≤givenN w m k v→isVol w (actW w m (w.hs.length - k) v j)
 | 0,_,v,j,hv,hj=>by
  obtain rfl:j=0:=by unfold givenN at hj; omega
  exact hv
 | k+1,hk,v,j,hv,hj=>by
  cases j with
  | zero=>exact hv
  | succ j =>
   rw [act_shift,show w.hs.length - (k+1)+1=w.hs.length - k by omega]
   unfold givenN at hj
   split at hj
   ·rename_i hv'
    exact given_vol k (by omega) _ j hv' (by omega)
   ·omega
theorem hold_vol {w:Wk} {x:Hld} {k j:Nat} {v:Int} (hk:k≤w.hs.length) (hv:isVol w v) (h:holdsW w x k v) (hx : 0≤x.mode) (hj:(j:Int)≤min x.hours k):isVol w (actW w x.mode.toNat (w.hs.length - k) v j):=by
 rcases h with h | h
 ·omega
 ·exact given_vol k hk v j hv (by omega)
def folP (r:Int):Int→List Int→List Int
 | _,[]=>[]
 | s,a :: l=>min (max a (s - r)) (s+r) :: folP r (min (max a (s - r)) (s+r)) l
def rampP:Int→Int→List Int→Int
 | r,_,[]=>r
 | r,s,a :: l=>rampP (max r (a - s).natAbs) a l
theorem ramp_ge:∀ (l:List Int) (r s:Int),r≤rampP r s l
 | [],r,_=>Int.le_refl r
 | a :: l,r,s=>by
  have:=ramp_ge l (max r (a - s).natAbs) a
  unfold rampP
  omega
theorem fol_same:∀ (l:List Int) (r s q:Int),rampP r s l≤q→folP q s l=l
 | [],_,_,_,_=>rfl
 | a :: l,r,s,q,h=>by
  unfold rampP at h
  have h1:=ramp_ge l (max r (a - s).natAbs) a
  have e:min (max a (s - q)) (s+q)=a:=by omega
  unfold folP
  rw [e,fol_same l _ a q h]
theorem fol_len (r:Int):∀ (l:List Int) (s:Int),(folP r s l).length=l.length
 | [],_=>rfl
 | a :: l,s=>by
  unfold folP
  rw [List.length_cons,fol_len r l,List.length_cons]
theorem fol_bd {r B:Int} (hr : 0≤r):∀ (l:List Int) (s:Int),(-B≤s∧s≤B)→(∀ a ∈ l, -B≤a∧a≤B)→∀ a ∈ folP r s l, -B≤a∧a≤B
 | [],_,_,_,a,h=>by cases h
 | b :: l,s,hs,hl,a,h=>by
  unfold folP at h
  have hb:=hl b (List.mem_cons_self ..)
  have hn : -B≤min (max b (s - r)) (s+r)∧min (max b (s - r)) (s+r)≤B:=by omega
  rcases List.mem_cons.1 h with rfl | h
  ·exact hn
  ·exact fol_bd hr l _ hn (fun c hc=>hl c (List.mem_cons_of_mem _ hc)) a h
def gvP (a b:Int):Int:=if 0<a∧0<b∨a<0∧b<0 then min (a.natAbs:Int) b.natAbs else 0
theorem gv_bd (a b:Int) : 0≤gvP a b∧gvP a b≤a.natAbs∧gvP a b≤b.natAbs:=by
 unfold gvP
 split <;> omega
theorem gv_same (a:Int):gvP a a=a.natAbs:=by
 unfold gvP
 split
 ·omega
 ·omega
def setE (a b:List Int):Nat→Int
 | 0=>0
 | k+1=>setE a b k+gvP (a.getD k 0) (b.getD k 0)
def setM (a b:List Int):Nat→Int
 | 0=>0
 | k+1=>setM a b k+((a.getD k 0).natAbs - gvP (a.getD k 0) (b.getD k 0))
def setO (a b:List Int):Nat→Int
 | 0=>0
 | k+1=>setO a b k+((b.getD k 0).natAbs - gvP (a.getD k 0) (b.getD k 0))
theorem set_same (a:List Int):∀ k,setM a a k=0∧setO a a k=0
 | 0=>⟨rfl,rfl⟩
 | k+1=>by
  obtain ⟨h1,h2⟩:=set_same a k
  unfold setM setO
  rw [h1,h2,gv_same]
  omega
theorem set_sum (a b:List Int):∀ k,setE a b k+setM a b k=setE a a k∧setE a b k≤setE a a k
 | 0=>⟨rfl,Int.le_refl _⟩
 | k+1=>by
  obtain ⟨h1,h2⟩:=set_sum a b k
  have h3:=gv_same (a.getD k 0)
  have h4:=gv_bd (a.getD k 0) (b.getD k 0)
  unfold setE setM
  omega
theorem set_bd {B:Int} (a b:List Int) (ha:∀ v ∈ a, -B≤v∧v≤B) (hb:∀ v ∈ b, -B≤v∧v≤B) (h0 : 0≤B):∀ k:Nat,(0≤setE a b k∧setE a b k≤B * k)∧(0≤setM a b k∧setM a b k≤B * k)∧0≤setO a b k∧setO a b k≤B * k
 | 0=>⟨⟨Int.le_refl _,by simp [setE]⟩,⟨Int.le_refl _,by simp [setM]⟩,Int.le_refl _,by simp [setO]⟩
 | k+1=>by
  obtain ⟨h1,h2,h3⟩:=set_bd a b ha hb h0 k
  have key:∀ (l:List Int),(∀ v ∈ l, -B≤v∧v≤B)→((l.getD k 0).natAbs:Int)≤B:=by
   intro l hl
   rw [List.getD_eq_getElem?_getD]
   cases e:l[k]? with
   | none=>exact h0
   | some v=>have:=hl v (List.mem_of_getElem? e); show (v.natAbs:Int)≤B; omega
  have ka:=key a ha
  have kb:=key b hb
  have h4:=gv_bd (a.getD k 0) (b.getD k 0)
  have e:B * ((k+1:Nat):Int)=B * k+B:=by rw [Int.natCast_add,Int.mul_add]; simp
  unfold setE setM setO
  rw [e]
  omega
end Go.DI

/- Names of modes as plain data: bytes that may stand in a name. No condition. -/
namespace Go.DI
def letB (c:Int):Prop:=(97≤c∧c≤122)∨(65≤c∧c≤90)
instance {c:Int}:Decidable (letB c):=by unfold letB; infer_instance
def inName (i:Nat) (c:Int):Prop:=letB c∨(i ≠ 0∧(c=45∨(48≤c∧c≤57)))
instance {i:Nat} {c:Int}:Decidable (inName i c):=by unfold inName; infer_instance
def byteAt (s:ByteArray) (i:Nat):Int:=((s.data.toList.getD i 0).toNat:Int)
def nameOk (s:ByteArray):Prop:=(1≤s.size∧s.size≤12)∧∀ i,i<s.size→inName i (byteAt s i)
end Go.DI

/- Contracts: names, plants and tasks, as the reference checks them. No condition. -/
set_option linter.unusedSimpArgs false
namespace Go.DI
open Go.Proofs Go.RowKit
def Wi (n lo hi:Int):Prop:=lo≤n∧n≤hi
instance {n lo hi:Int}:Decidable (Wi n lo hi):=by unfold Wi; infer_instance
def In64 (n:Int):Prop := -9223372036854775808≤n∧n≤9223372036854775807
theorem wrap64 {n:Int} (h1 : -9223372036854775808≤n) (h2:n≤9223372036854775807):IntKind.wrap .i64 n=n:=IntWalk.i64_in n ⟨h1,h2⟩
def mdI (m:Md):IV:=.agg [.str m.nm,.int .i64 m.ch,.int .i64 m.en,.int .i64 m.st]
def hrI (h:Hr):IV:=.agg [.int .i64 h.buy,.int .i64 h.sell,.int .i64 h.inf]
def plI (w:Wk):IV:=.agg [.int .i64 w.lo,.int .i64 w.hi,.slc 4 (w.ms.map mdI)]
def tkI (w:Wk):IV:=.agg [.int .i64 w.vol,.int .i64 w.mode,.int .i64 w.worth,.slc 3 (w.hs.map hrI)]
def wkI (w:Wk):IV:=.agg [.int .i64 w.lo,.int .i64 w.hi,.slc 4 (w.ms.map mdI),.int .i64 w.vol,.int .i64 w.mode,.int .i64 w.worth,.slc 3 (w.hs.map hrI)]
def hdI (x:Hld):IV:=.agg [.int .i64 x.mode,.int .i64 x.hours]
def snI (l:List Int):IV:=.slc 1 (l.map (.int .i64))
instance {s:ByteArray}:Decidable (nameOk s):=by unfold nameOk; infer_instance
theorem run_round {P:Program} {k:List KF} {Q:Ex→St→Prop} {st:St} {live ids:List Nat} {a c:DCode} (hc:c = .keep live ids a) (h:run P a (.again c :: k) Q (st.keep live ids)):run P (.loop c) k Q st:=by
 subst hc
 exact run_loop h
theorem c_within {x lo hi:Int}:Contract Try.prog 17 [.int .i64 x,.int .i64 lo,.int .i64 hi] (.bool (decide (Wi x lo hi))):=by
 unfold Wi
 refine contract_run Try.func17 k17 rfl ?_
 simp only [body17,b17,res17, ↓reduceIte,reduceCtorEq,Nat.reduceEqDiff,Nat.reduceAdd,Nat.reduceMul,Nat.reduceSub,Nat.reduceLeDiff,Nat.reduceBEq,Int.reduceToNat,Int.reduceLE,Int.reduceLT,Int.reduceEq,Int.reduceNe,di]
 split
 ·rename_i h; simp [h]
 ·rename_i h; simp [h]
theorem d_within {x lo hi:Int}:Contract Try.prog 29 [.int .i64 x,.int .i64 lo,.int .i64 hi] (.bool (decide (Wi x lo hi))):=by
 unfold Wi
 refine contract_run Try.func29 k29 rfl ?_
 simp only [body29,b29,res29, ↓reduceIte,reduceCtorEq,Nat.reduceEqDiff,Nat.reduceAdd,Nat.reduceMul,Nat.reduceSub,Nat.reduceLeDiff,Nat.reduceBEq,Int.reduceToNat,Int.reduceLE,Int.reduceLT,Int.reduceEq,Int.reduceNe,di]
 split
 ·rename_i h; simp [h]
 ·rename_i h; simp [h]
theorem c_IsName {s:ByteArray} (hs:s.size≤1000000000):Contract Try.prog 64 [.str s] (.bool (decide (nameOk s))):=by
 refine contract_run Try.func64 k64 rfl ?_
 simp only [body64,b64,res64,b64k0,b64k1,b64k2,b64k3, ↓reduceIte,reduceCtorEq,Nat.reduceEqDiff,Nat.reduceAdd,Nat.reduceMul,Nat.reduceSub,Nat.reduceLeDiff,Nat.reduceBEq,Int.reduceToNat,Int.reduceLE,Int.reduceLT,Int.reduceEq,Int.reduceNe,di]
 by_cases h1 : 1≤s.size∧s.size≤12
 case neg =>
  rw [decide_eq_false (fun k=>h1 k.1)]
  by_cases h2:(s.size:Int)<1
  ·simp only [h2, ↓reduceIte,reduceCtorEq,Nat.reduceEqDiff,Nat.reduceAdd,Nat.reduceMul,Nat.reduceSub,Nat.reduceLeDiff,Nat.reduceBEq,Int.reduceToNat,Int.reduceLE,Int.reduceLT,Int.reduceEq,Int.reduceNe,di]
   rw [if_neg (fun k=>k.1)]
   trivial
  ·have h3:(12:Int)<s.size:=by omega
   simp only [h2,h3, ↓reduceIte,reduceCtorEq,Nat.reduceEqDiff,Nat.reduceAdd,Nat.reduceMul,Nat.reduceSub,Nat.reduceLeDiff,Nat.reduceBEq,Int.reduceToNat,Int.reduceLE,Int.reduceLT,Int.reduceEq,Int.reduceNe,di]
 have e1:¬ ((s.size:Int)<1):=by omega
 have e2:¬ ((12:Int)<(s.size:Int)):=by omega
 simp only [e1,e2, ↓reduceIte,reduceCtorEq,Nat.reduceEqDiff,Nat.reduceAdd,Nat.reduceMul,Nat.reduceSub,Nat.reduceLeDiff,Nat.reduceBEq,Int.reduceToNat,Int.reduceLE,Int.reduceLT,Int.reduceEq,Int.reduceNe,di]
 refine loop_keep (α:=Nat) rfl (fun i=>s.size - i) (fun i=>i≤s.size∧∀ j,j<i→inName j (byteAt s j))
  (fun i=>[(0,.imm (.str s)),(3,.imm (.int .i64 i))]) (fun _=>[]) 0 ⟨Nat.zero_le _,fun j hj=>by omega⟩ (by simp only [↓reduceIte,reduceCtorEq,Nat.reduceEqDiff,Nat.reduceAdd,Nat.reduceMul,Nat.reduceSub,Nat.reduceLeDiff,Nat.reduceBEq,Int.reduceToNat,Int.reduceLE,Int.reduceLT,Int.reduceEq,Int.reduceNe,di] <;> rfl) ?_
 intro i ⟨hi,he⟩ ih
 simp only [res64,b64k0,b64k1,b64k2,b64k3, ↓reduceIte,reduceCtorEq,Nat.reduceEqDiff,Nat.reduceAdd,Nat.reduceMul,Nat.reduceSub,Nat.reduceLeDiff,Nat.reduceBEq,Int.reduceToNat,Int.reduceLE,Int.reduceLT,Int.reduceEq,Int.reduceNe,di]
 split
 ·rename_i h
  refine ⟨h,?_⟩
  have hlt:i<s.size:=by omega
  have hc:byteAt s i=((s.data.toList.getD i 0).toNat:Int):=rfl
  have no:¬ inName i (byteAt s i)→(some (IV.bool false)=some (IV.bool (decide (nameOk s)))):=fun hn=>by
   rw [decide_eq_false (fun k=>hn (k.2 i hlt))]
  have ih:=fun (hn:inName i (byteAt s i)) S R=>ih (i+1) S R (by omega) ⟨by omega,fun j hj=>by
   by_cases hj2:j=i
   ·subst hj2; exact hn
   ·exact he j (by omega)⟩
  rw [wrap64 (n:=(i:Int)+1) (by omega) (by omega)]
  rw [hc] at no ih
  clear hc
  generalize ((s.data.toList.getD i 0).toNat:Int)=c at *
  unfold inName letB at no ih
  repeat' split
  all_goals first
   | exact ih (by omega) _ _ (by simp only [↓reduceIte,reduceCtorEq,Nat.reduceEqDiff,Nat.reduceAdd,Nat.reduceMul,Nat.reduceSub,Nat.reduceLeDiff,Nat.reduceBEq,Int.reduceToNat,Int.reduceLE,Int.reduceLT,Int.reduceEq,Int.reduceNe,di] <;> rfl)
   | exact no (by omega)
 ·rename_i h
  rw [decide_eq_true]
  exact ⟨h1,fun j hj=>he j (by omega)⟩
theorem drop_getD {α:Type} [Inhabited α] {l:List α} {i:Nat} (h:i<l.length):l.drop i=l.getD i default :: l.drop (i+1):=by
 rw [List.drop_eq_getElem_cons h]
 congr 1
 rw [List.getD_eq_getElem?_getD,List.getElem?_eq_getElem h]
 rfl
theorem c_HasText {l:List ByteArray} {s:ByteArray} (hl:l.length≤1000000000):Contract Try.prog 65 [.slc 1 (l.map .str),.str s] (.bool (l.any (· == s))):=by
 refine contract_run Try.func65 k65 rfl ?_
 simp only [body65,b65,res65,b65k0,b65k1,b65k2, ↓reduceIte,reduceCtorEq,Nat.reduceEqDiff,Nat.reduceAdd,Nat.reduceMul,Nat.reduceSub,Nat.reduceLeDiff,Nat.reduceBEq,Int.reduceToNat,Int.reduceLE,Int.reduceLT,Int.reduceEq,Int.reduceNe,di]
 refine loop_keep (α:=Nat) rfl (fun i=>l.length - i) (fun i=>i≤l.length∧l.any (· == s)=(l.drop i).any (· == s))
  (fun i=>[(0,.imm (.slc 1 (l.map .str))),(1,.imm (.str s)),(5,.imm (.int .i64 i))]) (fun _=>[]) 0 ⟨Nat.zero_le _,by rw [List.drop_zero]⟩ (by simp only [↓reduceIte,reduceCtorEq,Nat.reduceEqDiff,Nat.reduceAdd,Nat.reduceMul,Nat.reduceSub,Nat.reduceLeDiff,Nat.reduceBEq,Int.reduceToNat,Int.reduceLE,Int.reduceLT,Int.reduceEq,Int.reduceNe,di] <;> rfl) ?_
 intro i ⟨hi,he⟩ ih
 simp only [res65,b65k0,b65k1,b65k2, ↓reduceIte,reduceCtorEq,Nat.reduceEqDiff,Nat.reduceAdd,Nat.reduceMul,Nat.reduceSub,Nat.reduceLeDiff,Nat.reduceBEq,Int.reduceToNat,Int.reduceLE,Int.reduceLT,Int.reduceEq,Int.reduceNe,di]
 split
 ·rename_i h
  refine ⟨h,?_⟩
  have hlt:i<l.length:=by omega
  rw [drop_getD hlt,List.any_cons] at he
  split
  ·rename_i h2
   rw [he,h2]
   rfl
  ·rename_i h2
   rw [wrap64 (n:=(i:Int)+1) (by omega) (by omega)]
   have h3:(l.getD i default == s)=false:=by simpa using h2
   rw [h3,Bool.false_or] at he
   exact ih (i+1) _ _ (by omega) ⟨by omega,he⟩ (by simp only [↓reduceIte,reduceCtorEq,Nat.reduceEqDiff,Nat.reduceAdd,Nat.reduceMul,Nat.reduceSub,Nat.reduceLeDiff,Nat.reduceBEq,Int.reduceToNat,Int.reduceLE,Int.reduceLT,Int.reduceEq,Int.reduceNe,di] <;> rfl)
 ·rename_i h
  have hie:i=l.length:=by omega
  subst hie
  rw [he,List.drop_length]
  rfl
def mdB (m:Md):Prop:=Wi m.ch (-10000) 10000∧Wi m.en (-10000) 10000∧Wi m.st 0 10000
instance {m:Md}:Decidable (mdB m):=by unfold mdB; infer_instance
def mdE (m:Md) (l:List ByteArray):Int:=if nameOk m.nm then if l.any (· == m.nm) then 5 else if mdB m then 0 else 2 else 4
theorem c_modeErr {m:Md} {l:List ByteArray} (hl:l.length≤1000000000) (hs:m.nm.size≤1000000000):Contract Try.prog 57 [mdI m,.slc 1 (l.map .str)] (.int .i64 (mdE m l)):=by
 unfold mdE mdB
 refine contract_run Try.func57 k57 rfl ?_
 simp only [body57,b57,res57,b57k0,b57k1,b57k2,mdI,hrI,plI,tkI,wkI,hdI,snI, ↓reduceIte,reduceCtorEq,Nat.reduceEqDiff,Nat.reduceAdd,Nat.reduceMul,Nat.reduceSub,Nat.reduceLeDiff,Nat.reduceBEq,Int.reduceToNat,Int.reduceLE,Int.reduceLT,Int.reduceEq,Int.reduceNe,di]
 refine calls_of (c_IsName hs) ?_; simp only [mdI,hrI,plI,tkI,wkI,hdI,snI,res57,b57k0,b57k1,b57k2, ↓reduceIte,reduceCtorEq,Nat.reduceEqDiff,Nat.reduceAdd,Nat.reduceMul,Nat.reduceSub,Nat.reduceLeDiff,Nat.reduceBEq,Int.reduceToNat,Int.reduceLE,Int.reduceLT,Int.reduceEq,Int.reduceNe,di]
 by_cases h1:nameOk m.nm
 case neg=>simp only [h1,res57,b57k0,b57k1,b57k2, ↓reduceIte,reduceCtorEq,Nat.reduceEqDiff,Nat.reduceAdd,Nat.reduceMul,Nat.reduceSub,Nat.reduceLeDiff,Nat.reduceBEq,Int.reduceToNat,Int.reduceLE,Int.reduceLT,Int.reduceEq,Int.reduceNe,di]; all_goals (simp only [false_and,and_false, ↓reduceIte])
 simp only [h1, ↓reduceIte,reduceCtorEq,Nat.reduceEqDiff,Nat.reduceAdd,Nat.reduceMul,Nat.reduceSub,Nat.reduceLeDiff,Nat.reduceBEq,Int.reduceToNat,Int.reduceLE,Int.reduceLT,Int.reduceEq,Int.reduceNe,di]
 refine calls_of (c_HasText hl) ?_; simp only [mdI,hrI,plI,tkI,wkI,hdI,snI,res57,b57k0,b57k1,b57k2, ↓reduceIte,reduceCtorEq,Nat.reduceEqDiff,Nat.reduceAdd,Nat.reduceMul,Nat.reduceSub,Nat.reduceLeDiff,Nat.reduceBEq,Int.reduceToNat,Int.reduceLE,Int.reduceLT,Int.reduceEq,Int.reduceNe,di]
 by_cases h2:l.any (· == m.nm)=true
 case pos=>simp only [h2, ↓reduceIte,reduceCtorEq,Nat.reduceEqDiff,Nat.reduceAdd,Nat.reduceMul,Nat.reduceSub,Nat.reduceLeDiff,Nat.reduceBEq,Int.reduceToNat,Int.reduceLE,Int.reduceLT,Int.reduceEq,Int.reduceNe,di]; all_goals (simp only [false_and,and_false, ↓reduceIte])
 simp only [h2, ↓reduceIte,reduceCtorEq,Nat.reduceEqDiff,Nat.reduceAdd,Nat.reduceMul,Nat.reduceSub,Nat.reduceLeDiff,Nat.reduceBEq,Int.reduceToNat,Int.reduceLE,Int.reduceLT,Int.reduceEq,Int.reduceNe,di]
 refine calls_of c_within ?_; simp only [mdI,hrI,plI,tkI,wkI,hdI,snI,res57,b57k0,b57k1,b57k2, ↓reduceIte,reduceCtorEq,Nat.reduceEqDiff,Nat.reduceAdd,Nat.reduceMul,Nat.reduceSub,Nat.reduceLeDiff,Nat.reduceBEq,Int.reduceToNat,Int.reduceLE,Int.reduceLT,Int.reduceEq,Int.reduceNe,di]
 by_cases h3:Wi m.ch (-10000) 10000
 case neg=>simp only [h3,res57,b57k0,b57k1,b57k2, ↓reduceIte,reduceCtorEq,Nat.reduceEqDiff,Nat.reduceAdd,Nat.reduceMul,Nat.reduceSub,Nat.reduceLeDiff,Nat.reduceBEq,Int.reduceToNat,Int.reduceLE,Int.reduceLT,Int.reduceEq,Int.reduceNe,di]; all_goals (simp only [false_and,and_false, ↓reduceIte])
 simp only [h3, ↓reduceIte,reduceCtorEq,Nat.reduceEqDiff,Nat.reduceAdd,Nat.reduceMul,Nat.reduceSub,Nat.reduceLeDiff,Nat.reduceBEq,Int.reduceToNat,Int.reduceLE,Int.reduceLT,Int.reduceEq,Int.reduceNe,di]
 refine calls_of c_within ?_; simp only [mdI,hrI,plI,tkI,wkI,hdI,snI,res57,b57k0,b57k1,b57k2, ↓reduceIte,reduceCtorEq,Nat.reduceEqDiff,Nat.reduceAdd,Nat.reduceMul,Nat.reduceSub,Nat.reduceLeDiff,Nat.reduceBEq,Int.reduceToNat,Int.reduceLE,Int.reduceLT,Int.reduceEq,Int.reduceNe,di]
 by_cases h4:Wi m.en (-10000) 10000
 case neg=>simp only [h4,res57,b57k0,b57k1,b57k2, ↓reduceIte,reduceCtorEq,Nat.reduceEqDiff,Nat.reduceAdd,Nat.reduceMul,Nat.reduceSub,Nat.reduceLeDiff,Nat.reduceBEq,Int.reduceToNat,Int.reduceLE,Int.reduceLT,Int.reduceEq,Int.reduceNe,di]; all_goals (simp only [false_and,and_false, ↓reduceIte])
 simp only [h4, ↓reduceIte,reduceCtorEq,Nat.reduceEqDiff,Nat.reduceAdd,Nat.reduceMul,Nat.reduceSub,Nat.reduceLeDiff,Nat.reduceBEq,Int.reduceToNat,Int.reduceLE,Int.reduceLT,Int.reduceEq,Int.reduceNe,di]
 refine calls_of c_within ?_; simp only [mdI,hrI,plI,tkI,wkI,hdI,snI,res57,b57k0,b57k1,b57k2, ↓reduceIte,reduceCtorEq,Nat.reduceEqDiff,Nat.reduceAdd,Nat.reduceMul,Nat.reduceSub,Nat.reduceLeDiff,Nat.reduceBEq,Int.reduceToNat,Int.reduceLE,Int.reduceLT,Int.reduceEq,Int.reduceNe,di]
 by_cases h5:Wi m.st 0 10000
 case neg=>simp only [h5,res57,b57k0,b57k1,b57k2, ↓reduceIte,reduceCtorEq,Nat.reduceEqDiff,Nat.reduceAdd,Nat.reduceMul,Nat.reduceSub,Nat.reduceLeDiff,Nat.reduceBEq,Int.reduceToNat,Int.reduceLE,Int.reduceLT,Int.reduceEq,Int.reduceNe,di]; all_goals (simp only [false_and,and_false, ↓reduceIte])
 simp only [h5,res57,b57k0,b57k1,b57k2, ↓reduceIte,reduceCtorEq,Nat.reduceEqDiff,Nat.reduceAdd,Nat.reduceMul,Nat.reduceSub,Nat.reduceLeDiff,Nat.reduceBEq,Int.reduceToNat,Int.reduceLE,Int.reduceLT,Int.reduceEq,Int.reduceNe,di]
def nmsW (w:Wk) (i:Nat):List ByteArray:=(w.ms.take i).map (·.nm)
def scanE (f:Nat→Int):Nat→Nat→Int × Int
 | 0,_=>(0,0)
 | k+1,i=>if f i=0 then scanE f k (i+1) else ((i:Int),f i)
theorem scanE_succ {f:Nat→Int} {k i:Nat}:scanE f (k+1) i=if f i=0 then scanE f k (i+1) else ((i:Int),f i):=rfl
theorem scanE_zero {f:Nat→Int}:∀ {k i:Nat},(scanE f k i).2=0→∀ j,i≤j→j<i+k→f j=0
 | 0,i,_,j,h1,h2=>by omega
 | k+1,i,h,j,h1,h2=>by
  unfold scanE at h
  split at h
  ·rename_i h3
   by_cases hj:j=i
   ·subst hj; exact h3
   ·exact scanE_zero h j (by omega) (by omega)
  ·rename_i h3
   exact absurd h h3
theorem getD_mem {α:Type} [Inhabited α] {l:List α} {i:Nat} (h:i<l.length):l.getD i default ∈ l:=by
 rw [List.getD_eq_getElem?_getD,List.getElem?_eq_getElem h]
 exact List.getElem_mem h
theorem nmsW_succ {w:Wk} {i:Nat} (h:i<w.ms.length):nmsW w (i+1)=nmsW w i ++ [(w.ms.getD i default).nm]:=by
 unfold nmsW
 rw [List.take_add_one,List.map_append,List.getD_eq_getElem?_getD,List.getElem?_eq_getElem h]
 rfl
def plE (w:Wk):Int × Int :=
 if Wi w.lo 0 1000000∧Wi w.hi 0 1000000 then if w.hi<w.lo then (0,9) else if 40≤w.hi - w.lo then (0,8) else if w.ms.length=0 then (0,10) else if 5<w.ms.length then (0,8)
  else scanE (fun i=>mdE (w.ms.getD i default) (nmsW w i)) w.ms.length 0
 else (0,2)
theorem r_CheckPlant {w:Wk} (hl:w.ms.length≤1000000000) (hs:∀ m ∈ w.ms,m.nm.size≤1000000000):Contract Try.prog 48 [plI w] (.tup [.int .i64 (plE w).1,.int .i64 (plE w).2]):=by
 unfold plE
 refine contract_run Try.func48 k48 rfl ?_
 simp only [body48,b48,res48,b48k0,b48k1,b48k2,b48k3,b48k4,b48k5,b48k6,b48k7,b48k8,mdI,hrI,plI,tkI,wkI,hdI,snI, ↓reduceIte,reduceCtorEq,Nat.reduceEqDiff,Nat.reduceAdd,Nat.reduceMul,Nat.reduceSub,Nat.reduceLeDiff,Nat.reduceBEq,Int.reduceToNat,Int.reduceLE,Int.reduceLT,Int.reduceEq,Int.reduceNe,di]
 refine calls_of c_within ?_; simp only [mdI,hrI,plI,tkI,wkI,hdI,snI,res48,b48k0,b48k1,b48k2,b48k3,b48k4,b48k5,b48k6,b48k7,b48k8, ↓reduceIte,reduceCtorEq,Nat.reduceEqDiff,Nat.reduceAdd,Nat.reduceMul,Nat.reduceSub,Nat.reduceLeDiff,Nat.reduceBEq,Int.reduceToNat,Int.reduceLE,Int.reduceLT,Int.reduceEq,Int.reduceNe,di]
 by_cases h1:Wi w.lo 0 1000000
 case neg=>simp only [h1,res48,b48k0,b48k1,b48k2,b48k3,b48k4,b48k5,b48k6,b48k7,b48k8, ↓reduceIte,reduceCtorEq,Nat.reduceEqDiff,Nat.reduceAdd,Nat.reduceMul,Nat.reduceSub,Nat.reduceLeDiff,Nat.reduceBEq,Int.reduceToNat,Int.reduceLE,Int.reduceLT,Int.reduceEq,Int.reduceNe,di]; all_goals (simp only [false_and,and_false, ↓reduceIte])
 simp only [h1, ↓reduceIte,reduceCtorEq,Nat.reduceEqDiff,Nat.reduceAdd,Nat.reduceMul,Nat.reduceSub,Nat.reduceLeDiff,Nat.reduceBEq,Int.reduceToNat,Int.reduceLE,Int.reduceLT,Int.reduceEq,Int.reduceNe,di]
 refine calls_of c_within ?_; simp only [mdI,hrI,plI,tkI,wkI,hdI,snI,res48,b48k0,b48k1,b48k2,b48k3,b48k4,b48k5,b48k6,b48k7,b48k8, ↓reduceIte,reduceCtorEq,Nat.reduceEqDiff,Nat.reduceAdd,Nat.reduceMul,Nat.reduceSub,Nat.reduceLeDiff,Nat.reduceBEq,Int.reduceToNat,Int.reduceLE,Int.reduceLT,Int.reduceEq,Int.reduceNe,di]
 by_cases h2:Wi w.hi 0 1000000
 case neg=>simp only [h2,res48,b48k0,b48k1,b48k2,b48k3,b48k4,b48k5,b48k6,b48k7,b48k8, ↓reduceIte,reduceCtorEq,Nat.reduceEqDiff,Nat.reduceAdd,Nat.reduceMul,Nat.reduceSub,Nat.reduceLeDiff,Nat.reduceBEq,Int.reduceToNat,Int.reduceLE,Int.reduceLT,Int.reduceEq,Int.reduceNe,di]; all_goals (simp only [false_and,and_false, ↓reduceIte])
 simp only [h2, ↓reduceIte,reduceCtorEq,Nat.reduceEqDiff,Nat.reduceAdd,Nat.reduceMul,Nat.reduceSub,Nat.reduceLeDiff,Nat.reduceBEq,Int.reduceToNat,Int.reduceLE,Int.reduceLT,Int.reduceEq,Int.reduceNe,di]
 have b1:=h1.1; have b2:=h1.2; have b3:=h2.1; have b4:=h2.2
 by_cases h3:w.hi<w.lo
 case pos=>simp only [h3,res48,b48k0,b48k1,b48k2,b48k3,b48k4,b48k5,b48k6,b48k7,b48k8, ↓reduceIte,reduceCtorEq,Nat.reduceEqDiff,Nat.reduceAdd,Nat.reduceMul,Nat.reduceSub,Nat.reduceLeDiff,Nat.reduceBEq,Int.reduceToNat,Int.reduceLE,Int.reduceLT,Int.reduceEq,Int.reduceNe,di]
 simp only [h3, ↓reduceIte,reduceCtorEq,Nat.reduceEqDiff,Nat.reduceAdd,Nat.reduceMul,Nat.reduceSub,Nat.reduceLeDiff,Nat.reduceBEq,Int.reduceToNat,Int.reduceLE,Int.reduceLT,Int.reduceEq,Int.reduceNe,di]
 rw [wrap64 (n:=w.hi - w.lo) (by omega) (by omega)]
 by_cases h4 : 40≤w.hi - w.lo
 case pos=>simp only [h4,res48,b48k0,b48k1,b48k2,b48k3,b48k4,b48k5,b48k6,b48k7,b48k8, ↓reduceIte,reduceCtorEq,Nat.reduceEqDiff,Nat.reduceAdd,Nat.reduceMul,Nat.reduceSub,Nat.reduceLeDiff,Nat.reduceBEq,Int.reduceToNat,Int.reduceLE,Int.reduceLT,Int.reduceEq,Int.reduceNe,di]
 simp only [h4, ↓reduceIte,reduceCtorEq,Nat.reduceEqDiff,Nat.reduceAdd,Nat.reduceMul,Nat.reduceSub,Nat.reduceLeDiff,Nat.reduceBEq,Int.reduceToNat,Int.reduceLE,Int.reduceLT,Int.reduceEq,Int.reduceNe,di]
 by_cases h5:w.ms.length=0
 case pos=>simp only [h5,res48,b48k0,b48k1,b48k2,b48k3,b48k4,b48k5,b48k6,b48k7,b48k8, ↓reduceIte,reduceCtorEq,Nat.reduceEqDiff,Nat.reduceAdd,Nat.reduceMul,Nat.reduceSub,Nat.reduceLeDiff,Nat.reduceBEq,Int.reduceToNat,Int.reduceLE,Int.reduceLT,Int.reduceEq,Int.reduceNe,di]
 have h5':¬ (w.ms.length:Int)=0:=by omega
 simp only [h5,h5', ↓reduceIte,reduceCtorEq,Nat.reduceEqDiff,Nat.reduceAdd,Nat.reduceMul,Nat.reduceSub,Nat.reduceLeDiff,Nat.reduceBEq,Int.reduceToNat,Int.reduceLE,Int.reduceLT,Int.reduceEq,Int.reduceNe,di]
 by_cases h6 : 5<w.ms.length
 case pos =>
  have h6' : 5<(w.ms.length:Int):=by omega
  simp only [h6,h6',res48,b48k0,b48k1,b48k2,b48k3,b48k4,b48k5,b48k6,b48k7,b48k8, ↓reduceIte,reduceCtorEq,Nat.reduceEqDiff,Nat.reduceAdd,Nat.reduceMul,Nat.reduceSub,Nat.reduceLeDiff,Nat.reduceBEq,Int.reduceToNat,Int.reduceLE,Int.reduceLT,Int.reduceEq,Int.reduceNe,di]
 have h6':¬ 5<(w.ms.length:Int):=by omega
 simp only [h6,h6', ↓reduceIte,reduceCtorEq,Nat.reduceEqDiff,Nat.reduceAdd,Nat.reduceMul,Nat.reduceSub,Nat.reduceLeDiff,Nat.reduceBEq,Int.reduceToNat,Int.reduceLE,Int.reduceLT,Int.reduceEq,Int.reduceNe,di]
 have nl:∀ i,(nmsW w i).length≤5:=fun i=>by unfold nmsW; rw [List.length_map,List.length_take]; omega
 refine loop_keep (α:=Nat) rfl (fun i=>w.ms.length - i) (fun i=>i≤w.ms.length∧scanE (fun i=>mdE (w.ms.getD i default) (nmsW w i)) w.ms.length 0=scanE (fun i=>mdE (w.ms.getD i default) (nmsW w i)) (w.ms.length - i) i)
  (fun i=>[(1,.ref 1 0),(4,.own 4),(5,.imm (.int .i64 i))]) (fun i=>[(1,.box [.imm (.int .i64 w.lo),.imm (.int .i64 w.hi),.imm (.slc 4 (w.ms.map mdI))]),(4,.tok 1 ((nmsW w i).map .str))]) 0 ⟨Nat.zero_le _,rfl⟩ (by simp only [nmsW,List.take_zero,List.map_nil, ↓reduceIte,reduceCtorEq,Nat.reduceEqDiff,Nat.reduceAdd,Nat.reduceMul,Nat.reduceSub,Nat.reduceLeDiff,Nat.reduceBEq,Int.reduceToNat,Int.reduceLE,Int.reduceLT,Int.reduceEq,Int.reduceNe,di] <;> rfl) ?_
 intro i ⟨hi,he⟩ ih
 simp only [res48,b48k0,b48k1,b48k2,b48k3,b48k4,b48k5,b48k6,b48k7,b48k8,mdI,hrI,plI,tkI,wkI,hdI,snI, ↓reduceIte,reduceCtorEq,Nat.reduceEqDiff,Nat.reduceAdd,Nat.reduceMul,Nat.reduceSub,Nat.reduceLeDiff,Nat.reduceBEq,Int.reduceToNat,Int.reduceLE,Int.reduceLT,Int.reduceEq,Int.reduceNe,di]
 split
 ·rename_i h
  have hlt:i<w.ms.length:=by omega
  refine ⟨h,?_⟩
  have hm:=hs (w.ms.getD i default) (getD_mem hlt)
  have hn:=nl i
  rw [show w.ms.length - i=(w.ms.length - (i+1))+1 by omega,scanE_succ] at he
  refine calls_of (c_modeErr (m:=w.ms.getD i default) (l:=nmsW w i) (by omega) hm) ?_; simp only [mdI,hrI,plI,tkI,wkI,hdI,snI,res48,b48k0,b48k1,b48k2,b48k3,b48k4,b48k5,b48k6,b48k7,b48k8, ↓reduceIte,reduceCtorEq,Nat.reduceEqDiff,Nat.reduceAdd,Nat.reduceMul,Nat.reduceSub,Nat.reduceLeDiff,Nat.reduceBEq,Int.reduceToNat,Int.reduceLE,Int.reduceLT,Int.reduceEq,Int.reduceNe,di]
  split
  ·rename_i h7
   rw [if_pos h7] at he
   refine ⟨h,by omega,by omega,?_⟩
   rw [wrap64 (n:=(i:Int)+1) (by omega) (by omega)]
   refine ih (i+1) _ _ (by omega) ⟨by omega,he⟩ ?_
   rw [nmsW_succ hlt,List.map_append]
   simp only [↓reduceIte,reduceCtorEq,Nat.reduceEqDiff,Nat.reduceAdd,Nat.reduceMul,Nat.reduceSub,Nat.reduceLeDiff,Nat.reduceBEq,Int.reduceToNat,Int.reduceLE,Int.reduceLT,Int.reduceEq,Int.reduceNe,di] <;> rfl
  ·rename_i h7
   rw [if_neg h7] at he
   rw [he]
 ·rename_i h
  have hie:i=w.ms.length:=by omega
  rw [he,hie,Nat.sub_self]
  rfl
theorem r_PlantErr {w:Wk} (hl:w.ms.length≤1000000000) (hs:∀ m ∈ w.ms,m.nm.size≤1000000000):Contract Try.prog 35 [plI w] (.int .i64 (plE w).2):=by
 refine contract_run Try.func35 k35 rfl ?_
 simp only [body35,b35,res35,mdI,hrI,plI,tkI,wkI,hdI,snI, ↓reduceIte,reduceCtorEq,Nat.reduceEqDiff,Nat.reduceAdd,Nat.reduceMul,Nat.reduceSub,Nat.reduceLeDiff,Nat.reduceBEq,Int.reduceToNat,Int.reduceLE,Int.reduceLT,Int.reduceEq,Int.reduceNe,di]
 have h:=r_CheckPlant hl hs
 simp only [plI] at h
 refine calls_of h ?_; simp only [mdI,hrI,plI,tkI,wkI,hdI,snI,res35, ↓reduceIte,reduceCtorEq,Nat.reduceEqDiff,Nat.reduceAdd,Nat.reduceMul,Nat.reduceSub,Nat.reduceLeDiff,Nat.reduceBEq,Int.reduceToNat,Int.reduceLE,Int.reduceLT,Int.reduceEq,Int.reduceNe,di]
theorem r_isPrice {n:Int}:Contract Try.prog 36 [.int .i64 n] (.bool (decide (Wi n (-10000) 10000))):=by
 refine contract_run Try.func36 k36 rfl ?_
 simp only [body36,b36,res36,mdI,hrI,plI,tkI,wkI,hdI,snI, ↓reduceIte,reduceCtorEq,Nat.reduceEqDiff,Nat.reduceAdd,Nat.reduceMul,Nat.reduceSub,Nat.reduceLeDiff,Nat.reduceBEq,Int.reduceToNat,Int.reduceLE,Int.reduceLT,Int.reduceEq,Int.reduceNe,di]
 refine calls_of c_within ?_; simp only [mdI,hrI,plI,tkI,wkI,hdI,snI,res36, ↓reduceIte,reduceCtorEq,Nat.reduceEqDiff,Nat.reduceAdd,Nat.reduceMul,Nat.reduceSub,Nat.reduceLeDiff,Nat.reduceBEq,Int.reduceToNat,Int.reduceLE,Int.reduceLT,Int.reduceEq,Int.reduceNe,di]
def hrE (h:Hr):Int:=if Wi h.buy (-10000) 10000∧Wi h.sell (-10000) 10000∧Wi h.inf (-10000) 10000 then if h.buy<h.sell then 9 else 0 else 2
def tkE (w:Wk):Int × Int :=
 if (plE w).2=0 then
  if Wi w.vol w.lo w.hi then if Wi w.mode 0 (w.ms.length - 1) then if Wi w.worth (-10000) 10000 then if w.hs.length=0 then (0,10) else if 10<w.hs.length then (0,8) else scanE (fun i=>hrE (w.hs.getD i default)) w.hs.length 0
   else (0,2) else (0,6) else (0,2)
 else (0,(plE w).2)
theorem r_CheckTask {w:Wk} (hl:w.ms.length≤1000000000) (hs:∀ m ∈ w.ms,m.nm.size≤1000000000) (hh:w.hs.length≤1000000000):Contract Try.prog 24 [plI w,tkI w] (.tup [.int .i64 (tkE w).1,.int .i64 (tkE w).2]):=by
 have hp:=r_PlantErr hl hs
 simp only [plI] at hp
 unfold tkE
 refine contract_run Try.func24 k24 rfl ?_
 simp only [body24,b24,res24,b24k0,b24k1,b24k2,b24k3,b24k4,b24k5,b24k6,b24k7,b24k8,b24k9,mdI,hrI,plI,tkI,wkI,hdI,snI, ↓reduceIte,reduceCtorEq,Nat.reduceEqDiff,Nat.reduceAdd,Nat.reduceMul,Nat.reduceSub,Nat.reduceLeDiff,Nat.reduceBEq,Int.reduceToNat,Int.reduceLE,Int.reduceLT,Int.reduceEq,Int.reduceNe,di]
 refine calls_of hp ?_; simp only [mdI,hrI,plI,tkI,wkI,hdI,snI,res24,b24k0,b24k1,b24k2,b24k3,b24k4,b24k5,b24k6,b24k7,b24k8,b24k9, ↓reduceIte,reduceCtorEq,Nat.reduceEqDiff,Nat.reduceAdd,Nat.reduceMul,Nat.reduceSub,Nat.reduceLeDiff,Nat.reduceBEq,Int.reduceToNat,Int.reduceLE,Int.reduceLT,Int.reduceEq,Int.reduceNe,di]
 by_cases h0:(plE w).2=0
 case neg=>simp only [h0,res24,b24k0,b24k1,b24k2,b24k3,b24k4,b24k5,b24k6,b24k7,b24k8,b24k9, ↓reduceIte,reduceCtorEq,Nat.reduceEqDiff,Nat.reduceAdd,Nat.reduceMul,Nat.reduceSub,Nat.reduceLeDiff,Nat.reduceBEq,Int.reduceToNat,Int.reduceLE,Int.reduceLT,Int.reduceEq,Int.reduceNe,di]
 simp only [h0, ↓reduceIte,reduceCtorEq,Nat.reduceEqDiff,Nat.reduceAdd,Nat.reduceMul,Nat.reduceSub,Nat.reduceLeDiff,Nat.reduceBEq,Int.reduceToNat,Int.reduceLE,Int.reduceLT,Int.reduceEq,Int.reduceNe,di]
 refine calls_of c_within ?_; simp only [mdI,hrI,plI,tkI,wkI,hdI,snI,res24,b24k0,b24k1,b24k2,b24k3,b24k4,b24k5,b24k6,b24k7,b24k8,b24k9, ↓reduceIte,reduceCtorEq,Nat.reduceEqDiff,Nat.reduceAdd,Nat.reduceMul,Nat.reduceSub,Nat.reduceLeDiff,Nat.reduceBEq,Int.reduceToNat,Int.reduceLE,Int.reduceLT,Int.reduceEq,Int.reduceNe,di]
 by_cases h1:Wi w.vol w.lo w.hi
 case neg=>simp only [h1,res24,b24k0,b24k1,b24k2,b24k3,b24k4,b24k5,b24k6,b24k7,b24k8,b24k9, ↓reduceIte,reduceCtorEq,Nat.reduceEqDiff,Nat.reduceAdd,Nat.reduceMul,Nat.reduceSub,Nat.reduceLeDiff,Nat.reduceBEq,Int.reduceToNat,Int.reduceLE,Int.reduceLT,Int.reduceEq,Int.reduceNe,di]
 simp only [h1, ↓reduceIte,reduceCtorEq,Nat.reduceEqDiff,Nat.reduceAdd,Nat.reduceMul,Nat.reduceSub,Nat.reduceLeDiff,Nat.reduceBEq,Int.reduceToNat,Int.reduceLE,Int.reduceLT,Int.reduceEq,Int.reduceNe,di]
 rw [wrap64 (n:=(w.ms.length:Int) - 1) (by omega) (by omega)]
 refine calls_of c_within ?_; simp only [mdI,hrI,plI,tkI,wkI,hdI,snI,res24,b24k0,b24k1,b24k2,b24k3,b24k4,b24k5,b24k6,b24k7,b24k8,b24k9, ↓reduceIte,reduceCtorEq,Nat.reduceEqDiff,Nat.reduceAdd,Nat.reduceMul,Nat.reduceSub,Nat.reduceLeDiff,Nat.reduceBEq,Int.reduceToNat,Int.reduceLE,Int.reduceLT,Int.reduceEq,Int.reduceNe,di]
 by_cases h2:Wi w.mode 0 (w.ms.length - 1)
 case neg=>simp only [h2,res24,b24k0,b24k1,b24k2,b24k3,b24k4,b24k5,b24k6,b24k7,b24k8,b24k9, ↓reduceIte,reduceCtorEq,Nat.reduceEqDiff,Nat.reduceAdd,Nat.reduceMul,Nat.reduceSub,Nat.reduceLeDiff,Nat.reduceBEq,Int.reduceToNat,Int.reduceLE,Int.reduceLT,Int.reduceEq,Int.reduceNe,di]
 simp only [h2, ↓reduceIte,reduceCtorEq,Nat.reduceEqDiff,Nat.reduceAdd,Nat.reduceMul,Nat.reduceSub,Nat.reduceLeDiff,Nat.reduceBEq,Int.reduceToNat,Int.reduceLE,Int.reduceLT,Int.reduceEq,Int.reduceNe,di]
 refine calls_of r_isPrice ?_; simp only [mdI,hrI,plI,tkI,wkI,hdI,snI,res24,b24k0,b24k1,b24k2,b24k3,b24k4,b24k5,b24k6,b24k7,b24k8,b24k9, ↓reduceIte,reduceCtorEq,Nat.reduceEqDiff,Nat.reduceAdd,Nat.reduceMul,Nat.reduceSub,Nat.reduceLeDiff,Nat.reduceBEq,Int.reduceToNat,Int.reduceLE,Int.reduceLT,Int.reduceEq,Int.reduceNe,di]
 by_cases h3:Wi w.worth (-10000) 10000
 case neg=>simp only [h3,res24,b24k0,b24k1,b24k2,b24k3,b24k4,b24k5,b24k6,b24k7,b24k8,b24k9, ↓reduceIte,reduceCtorEq,Nat.reduceEqDiff,Nat.reduceAdd,Nat.reduceMul,Nat.reduceSub,Nat.reduceLeDiff,Nat.reduceBEq,Int.reduceToNat,Int.reduceLE,Int.reduceLT,Int.reduceEq,Int.reduceNe,di]
 simp only [h3, ↓reduceIte,reduceCtorEq,Nat.reduceEqDiff,Nat.reduceAdd,Nat.reduceMul,Nat.reduceSub,Nat.reduceLeDiff,Nat.reduceBEq,Int.reduceToNat,Int.reduceLE,Int.reduceLT,Int.reduceEq,Int.reduceNe,di]
 by_cases h4:w.hs.length=0
 case pos=>simp only [h4,res24,b24k0,b24k1,b24k2,b24k3,b24k4,b24k5,b24k6,b24k7,b24k8,b24k9, ↓reduceIte,reduceCtorEq,Nat.reduceEqDiff,Nat.reduceAdd,Nat.reduceMul,Nat.reduceSub,Nat.reduceLeDiff,Nat.reduceBEq,Int.reduceToNat,Int.reduceLE,Int.reduceLT,Int.reduceEq,Int.reduceNe,di]
 have h4':¬ (w.hs.length:Int)=0:=by omega
 simp only [h4,h4', ↓reduceIte,reduceCtorEq,Nat.reduceEqDiff,Nat.reduceAdd,Nat.reduceMul,Nat.reduceSub,Nat.reduceLeDiff,Nat.reduceBEq,Int.reduceToNat,Int.reduceLE,Int.reduceLT,Int.reduceEq,Int.reduceNe,di]
 by_cases h6 : 10<w.hs.length
 case pos =>
  have h6' : 10<(w.hs.length:Int):=by omega
  simp only [h6,h6',res24,b24k0,b24k1,b24k2,b24k3,b24k4,b24k5,b24k6,b24k7,b24k8,b24k9, ↓reduceIte,reduceCtorEq,Nat.reduceEqDiff,Nat.reduceAdd,Nat.reduceMul,Nat.reduceSub,Nat.reduceLeDiff,Nat.reduceBEq,Int.reduceToNat,Int.reduceLE,Int.reduceLT,Int.reduceEq,Int.reduceNe,di]
 have h6':¬ 10<(w.hs.length:Int):=by omega
 simp only [h6,h6', ↓reduceIte,reduceCtorEq,Nat.reduceEqDiff,Nat.reduceAdd,Nat.reduceMul,Nat.reduceSub,Nat.reduceLeDiff,Nat.reduceBEq,Int.reduceToNat,Int.reduceLE,Int.reduceLT,Int.reduceEq,Int.reduceNe,di]
 refine loop_keep (α:=Nat) rfl (fun i=>w.hs.length - i) (fun i=>i≤w.hs.length∧scanE (fun i=>hrE (w.hs.getD i default)) w.hs.length 0=scanE (fun i=>hrE (w.hs.getD i default)) (w.hs.length - i) i)
  (fun i=>[(3,.ref 3 0),(7,.imm (.int .i64 i))]) (fun i=>[(3,.box [.imm (.int .i64 w.vol),.imm (.int .i64 w.mode),.imm (.int .i64 w.worth),.imm (.slc 3 (w.hs.map hrI))])]) 0 ⟨Nat.zero_le _,rfl⟩ (by simp only [mdI,hrI,plI,tkI,wkI,hdI,snI, ↓reduceIte,reduceCtorEq,Nat.reduceEqDiff,Nat.reduceAdd,Nat.reduceMul,Nat.reduceSub,Nat.reduceLeDiff,Nat.reduceBEq,Int.reduceToNat,Int.reduceLE,Int.reduceLT,Int.reduceEq,Int.reduceNe,di] <;> rfl) ?_
 intro i ⟨hi,he⟩ ih
 simp only [res24,b24k0,b24k1,b24k2,b24k3,b24k4,b24k5,b24k6,b24k7,b24k8,b24k9,mdI,hrI,plI,tkI,wkI,hdI,snI, ↓reduceIte,reduceCtorEq,Nat.reduceEqDiff,Nat.reduceAdd,Nat.reduceMul,Nat.reduceSub,Nat.reduceLeDiff,Nat.reduceBEq,Int.reduceToNat,Int.reduceLE,Int.reduceLT,Int.reduceEq,Int.reduceNe,di]
 split
 ·rename_i h
  have hlt:i<w.hs.length:=by omega
  refine ⟨h,?_⟩
  rw [show w.hs.length - i=(w.hs.length - (i+1))+1 by omega,scanE_succ] at he
  generalize w.hs.getD i default=x at *
  have ih:=fun (h7:hrE x=0) S R=>ih (i+1) S R (by omega) ⟨by omega,by rw [if_pos h7] at he; exact he⟩
  have no:¬ hrE x=0→scanE (fun i=>hrE (w.hs.getD i default)) w.hs.length 0=((i:Int),hrE x):=fun h7=>by
   rw [if_neg h7] at he
   exact he
  refine calls_of r_isPrice ?_; simp only [mdI,hrI,plI,tkI,wkI,hdI,snI,res24,b24k0,b24k1,b24k2,b24k3,b24k4,b24k5,b24k6,b24k7,b24k8,b24k9, ↓reduceIte,reduceCtorEq,Nat.reduceEqDiff,Nat.reduceAdd,Nat.reduceMul,Nat.reduceSub,Nat.reduceLeDiff,Nat.reduceBEq,Int.reduceToNat,Int.reduceLE,Int.reduceLT,Int.reduceEq,Int.reduceNe,di]
  by_cases g1:Wi x.buy (-10000) 10000
  case neg =>
   have hv:hrE x=2:=if_neg (fun k=>g1 k.1)
   rw [no (by rw [hv]; decide),hv]
   simp only [g1,res24,b24k0,b24k1,b24k2,b24k3,b24k4,b24k5,b24k6,b24k7,b24k8,b24k9, ↓reduceIte,reduceCtorEq,Nat.reduceEqDiff,Nat.reduceAdd,Nat.reduceMul,Nat.reduceSub,Nat.reduceLeDiff,Nat.reduceBEq,Int.reduceToNat,Int.reduceLE,Int.reduceLT,Int.reduceEq,Int.reduceNe,di]
   all_goals (simp only [false_and,and_false, ↓reduceIte])
  simp only [g1, ↓reduceIte,reduceCtorEq,Nat.reduceEqDiff,Nat.reduceAdd,Nat.reduceMul,Nat.reduceSub,Nat.reduceLeDiff,Nat.reduceBEq,Int.reduceToNat,Int.reduceLE,Int.reduceLT,Int.reduceEq,Int.reduceNe,di]
  refine calls_of r_isPrice ?_; simp only [mdI,hrI,plI,tkI,wkI,hdI,snI,res24,b24k0,b24k1,b24k2,b24k3,b24k4,b24k5,b24k6,b24k7,b24k8,b24k9, ↓reduceIte,reduceCtorEq,Nat.reduceEqDiff,Nat.reduceAdd,Nat.reduceMul,Nat.reduceSub,Nat.reduceLeDiff,Nat.reduceBEq,Int.reduceToNat,Int.reduceLE,Int.reduceLT,Int.reduceEq,Int.reduceNe,di]
  by_cases g2:Wi x.sell (-10000) 10000
  case neg =>
   have hv:hrE x=2:=if_neg (fun k=>g2 k.2.1)
   rw [no (by rw [hv]; decide),hv]
   simp only [g2,res24,b24k0,b24k1,b24k2,b24k3,b24k4,b24k5,b24k6,b24k7,b24k8,b24k9, ↓reduceIte,reduceCtorEq,Nat.reduceEqDiff,Nat.reduceAdd,Nat.reduceMul,Nat.reduceSub,Nat.reduceLeDiff,Nat.reduceBEq,Int.reduceToNat,Int.reduceLE,Int.reduceLT,Int.reduceEq,Int.reduceNe,di]
   all_goals (simp only [false_and,and_false, ↓reduceIte])
  simp only [g2, ↓reduceIte,reduceCtorEq,Nat.reduceEqDiff,Nat.reduceAdd,Nat.reduceMul,Nat.reduceSub,Nat.reduceLeDiff,Nat.reduceBEq,Int.reduceToNat,Int.reduceLE,Int.reduceLT,Int.reduceEq,Int.reduceNe,di]
  refine calls_of r_isPrice ?_; simp only [mdI,hrI,plI,tkI,wkI,hdI,snI,res24,b24k0,b24k1,b24k2,b24k3,b24k4,b24k5,b24k6,b24k7,b24k8,b24k9, ↓reduceIte,reduceCtorEq,Nat.reduceEqDiff,Nat.reduceAdd,Nat.reduceMul,Nat.reduceSub,Nat.reduceLeDiff,Nat.reduceBEq,Int.reduceToNat,Int.reduceLE,Int.reduceLT,Int.reduceEq,Int.reduceNe,di]
  by_cases g3:Wi x.inf (-10000) 10000
  case neg =>
   have hv:hrE x=2:=if_neg (fun k=>g3 k.2.2)
   rw [no (by rw [hv]; decide),hv]
   simp only [g3,res24,b24k0,b24k1,b24k2,b24k3,b24k4,b24k5,b24k6,b24k7,b24k8,b24k9, ↓reduceIte,reduceCtorEq,Nat.reduceEqDiff,Nat.reduceAdd,Nat.reduceMul,Nat.reduceSub,Nat.reduceLeDiff,Nat.reduceBEq,Int.reduceToNat,Int.reduceLE,Int.reduceLT,Int.reduceEq,Int.reduceNe,di]
   all_goals (simp only [false_and,and_false, ↓reduceIte])
  have hv:hrE x=if x.buy<x.sell then 9 else 0:=if_pos ⟨g1,g2,g3⟩
  simp only [g3, ↓reduceIte,reduceCtorEq,Nat.reduceEqDiff,Nat.reduceAdd,Nat.reduceMul,Nat.reduceSub,Nat.reduceLeDiff,Nat.reduceBEq,Int.reduceToNat,Int.reduceLE,Int.reduceLT,Int.reduceEq,Int.reduceNe,di]
  by_cases g4:x.buy<x.sell
  case pos =>
   rw [if_pos g4] at hv
   rw [no (by rw [hv]; decide),hv]
   simp only [g4,res24,b24k0,b24k1,b24k2,b24k3,b24k4,b24k5,b24k6,b24k7,b24k8,b24k9, ↓reduceIte,reduceCtorEq,Nat.reduceEqDiff,Nat.reduceAdd,Nat.reduceMul,Nat.reduceSub,Nat.reduceLeDiff,Nat.reduceBEq,Int.reduceToNat,Int.reduceLE,Int.reduceLT,Int.reduceEq,Int.reduceNe,di]
  rw [if_neg g4] at hv
  simp only [g4, ↓reduceIte,reduceCtorEq,Nat.reduceEqDiff,Nat.reduceAdd,Nat.reduceMul,Nat.reduceSub,Nat.reduceLeDiff,Nat.reduceBEq,Int.reduceToNat,Int.reduceLE,Int.reduceLT,Int.reduceEq,Int.reduceNe,di]
  rw [wrap64 (n:=(i:Int)+1) (by omega) (by omega)]
  exact ih hv _ _ (by simp only [↓reduceIte,reduceCtorEq,Nat.reduceEqDiff,Nat.reduceAdd,Nat.reduceMul,Nat.reduceSub,Nat.reduceLeDiff,Nat.reduceBEq,Int.reduceToNat,Int.reduceLE,Int.reduceLT,Int.reduceEq,Int.reduceNe,di] <;> rfl)
 ·rename_i h
  have hie:i=w.hs.length:=by omega
  rw [he,hie,Nat.sub_self]
  rfl
theorem r_TaskErr {w:Wk} (hl:w.ms.length≤1000000000) (hs:∀ m ∈ w.ms,m.nm.size≤1000000000) (hh:w.hs.length≤1000000000):Contract Try.prog 7 [plI w,tkI w] (.int .i64 (tkE w).2):=by
 have h:=r_CheckTask hl hs hh
 simp only [plI,tkI] at h
 refine contract_run Try.func7 k7 rfl ?_
 simp only [body7,b7,res7,mdI,hrI,plI,tkI,wkI,hdI,snI, ↓reduceIte,reduceCtorEq,Nat.reduceEqDiff,Nat.reduceAdd,Nat.reduceMul,Nat.reduceSub,Nat.reduceLeDiff,Nat.reduceBEq,Int.reduceToNat,Int.reduceLE,Int.reduceLT,Int.reduceEq,Int.reduceNe,di]
 refine calls_of h ?_; simp only [mdI,hrI,plI,tkI,wkI,hdI,snI,res7, ↓reduceIte,reduceCtorEq,Nat.reduceEqDiff,Nat.reduceAdd,Nat.reduceMul,Nat.reduceSub,Nat.reduceLeDiff,Nat.reduceBEq,Int.reduceToNat,Int.reduceLE,Int.reduceLT,Int.reduceEq,Int.reduceNe,di]
def hdE (w:Wk) (x:Hld):Int:=if Wi x.mode 0 (w.ms.length - 1) then if Wi x.hours 0 10 then 0 else 2 else 6
theorem r_HoldErr {w:Wk} {x:Hld} (hl:w.ms.length≤1000000000):Contract Try.prog 8 [plI w,hdI x] (.int .i64 (hdE w x)):=by
 unfold hdE
 refine contract_run Try.func8 k8 rfl ?_
 simp only [body8,b8,res8,b8k0,b8k1,mdI,hrI,plI,tkI,wkI,hdI,snI, ↓reduceIte,reduceCtorEq,Nat.reduceEqDiff,Nat.reduceAdd,Nat.reduceMul,Nat.reduceSub,Nat.reduceLeDiff,Nat.reduceBEq,Int.reduceToNat,Int.reduceLE,Int.reduceLT,Int.reduceEq,Int.reduceNe,di]
 rw [wrap64 (n:=(w.ms.length:Int) - 1) (by omega) (by omega)]
 refine calls_of c_within ?_; simp only [mdI,hrI,plI,tkI,wkI,hdI,snI,res8,b8k0,b8k1, ↓reduceIte,reduceCtorEq,Nat.reduceEqDiff,Nat.reduceAdd,Nat.reduceMul,Nat.reduceSub,Nat.reduceLeDiff,Nat.reduceBEq,Int.reduceToNat,Int.reduceLE,Int.reduceLT,Int.reduceEq,Int.reduceNe,di]
 by_cases h1:Wi x.mode 0 (w.ms.length - 1)
 case neg=>simp only [h1,res8,b8k0,b8k1, ↓reduceIte,reduceCtorEq,Nat.reduceEqDiff,Nat.reduceAdd,Nat.reduceMul,Nat.reduceSub,Nat.reduceLeDiff,Nat.reduceBEq,Int.reduceToNat,Int.reduceLE,Int.reduceLT,Int.reduceEq,Int.reduceNe,di]
 simp only [h1, ↓reduceIte,reduceCtorEq,Nat.reduceEqDiff,Nat.reduceAdd,Nat.reduceMul,Nat.reduceSub,Nat.reduceLeDiff,Nat.reduceBEq,Int.reduceToNat,Int.reduceLE,Int.reduceLT,Int.reduceEq,Int.reduceNe,di]
 refine calls_of c_within ?_; simp only [mdI,hrI,plI,tkI,wkI,hdI,snI,res8,b8k0,b8k1, ↓reduceIte,reduceCtorEq,Nat.reduceEqDiff,Nat.reduceAdd,Nat.reduceMul,Nat.reduceSub,Nat.reduceLeDiff,Nat.reduceBEq,Int.reduceToNat,Int.reduceLE,Int.reduceLT,Int.reduceEq,Int.reduceNe,di]
 by_cases h2:Wi x.hours 0 10
 case neg=>simp only [h2,res8,b8k0,b8k1, ↓reduceIte,reduceCtorEq,Nat.reduceEqDiff,Nat.reduceAdd,Nat.reduceMul,Nat.reduceSub,Nat.reduceLeDiff,Nat.reduceBEq,Int.reduceToNat,Int.reduceLE,Int.reduceLT,Int.reduceEq,Int.reduceNe,di]
 simp only [h2, ↓reduceIte,reduceCtorEq,Nat.reduceEqDiff,Nat.reduceAdd,Nat.reduceMul,Nat.reduceSub,Nat.reduceLeDiff,Nat.reduceBEq,Int.reduceToNat,Int.reduceLE,Int.reduceLT,Int.reduceEq,Int.reduceNe,di]
def pwE (l:List Int):Int:=if 300<l.length then 8 else if l.all (fun n=>decide (Wi n (-1000000) 1000000)) then 0 else 2
theorem r_PowersErr {l:List Int} (hl:l.length≤1000000000):Contract Try.prog 9 [snI l] (.int .i64 (pwE l)):=by
 unfold pwE
 refine contract_run Try.func9 k9 rfl ?_
 simp only [body9,b9,res9,b9k0,b9k1,b9k2,b9k3,mdI,hrI,plI,tkI,wkI,hdI,snI, ↓reduceIte,reduceCtorEq,Nat.reduceEqDiff,Nat.reduceAdd,Nat.reduceMul,Nat.reduceSub,Nat.reduceLeDiff,Nat.reduceBEq,Int.reduceToNat,Int.reduceLE,Int.reduceLT,Int.reduceEq,Int.reduceNe,di]
 by_cases h1 : 300<l.length
 case pos =>
  have h1' : 300<(l.length:Int):=by omega
  simp only [h1,h1',res9,b9k0,b9k1,b9k2,b9k3, ↓reduceIte,reduceCtorEq,Nat.reduceEqDiff,Nat.reduceAdd,Nat.reduceMul,Nat.reduceSub,Nat.reduceLeDiff,Nat.reduceBEq,Int.reduceToNat,Int.reduceLE,Int.reduceLT,Int.reduceEq,Int.reduceNe,di]
 have h1':¬ 300<(l.length:Int):=by omega
 simp only [h1,h1', ↓reduceIte,reduceCtorEq,Nat.reduceEqDiff,Nat.reduceAdd,Nat.reduceMul,Nat.reduceSub,Nat.reduceLeDiff,Nat.reduceBEq,Int.reduceToNat,Int.reduceLE,Int.reduceLT,Int.reduceEq,Int.reduceNe,di]
 refine loop_keep (α:=Nat) rfl (fun i=>l.length - i) (fun i=>i≤l.length∧l.all (fun n=>decide (Wi n (-1000000) 1000000))=(l.drop i).all (fun n=>decide (Wi n (-1000000) 1000000)))
  (fun i=>[(0,.imm (.slc 1 (l.map (.int .i64)))),(3,.imm (.int .i64 i))]) (fun _=>[]) 0 ⟨Nat.zero_le _,by rw [List.drop_zero]⟩ (by simp only [↓reduceIte,reduceCtorEq,Nat.reduceEqDiff,Nat.reduceAdd,Nat.reduceMul,Nat.reduceSub,Nat.reduceLeDiff,Nat.reduceBEq,Int.reduceToNat,Int.reduceLE,Int.reduceLT,Int.reduceEq,Int.reduceNe,di] <;> rfl) ?_
 intro i ⟨hi,he⟩ ih
 simp only [res9,b9k0,b9k1,b9k2,b9k3, ↓reduceIte,reduceCtorEq,Nat.reduceEqDiff,Nat.reduceAdd,Nat.reduceMul,Nat.reduceSub,Nat.reduceLeDiff,Nat.reduceBEq,Int.reduceToNat,Int.reduceLE,Int.reduceLT,Int.reduceEq,Int.reduceNe,di]
 split
 ·rename_i h
  refine ⟨h,?_⟩
  have hlt:i<l.length:=by omega
  rw [show l.drop i=l.getD i 0 :: l.drop (i+1) from drop_getD hlt,List.all_cons] at he
  refine calls_of c_within ?_; simp only [mdI,hrI,plI,tkI,wkI,hdI,snI,res9,b9k0,b9k1,b9k2,b9k3, ↓reduceIte,reduceCtorEq,Nat.reduceEqDiff,Nat.reduceAdd,Nat.reduceMul,Nat.reduceSub,Nat.reduceLeDiff,Nat.reduceBEq,Int.reduceToNat,Int.reduceLE,Int.reduceLT,Int.reduceEq,Int.reduceNe,di]
  generalize l.getD i 0=x at *
  by_cases h2:Wi x (-1000000) 1000000
  case neg =>
   rw [decide_eq_false h2,Bool.false_and] at he
   rw [he]
   simp only [h2,res9,b9k0,b9k1,b9k2,b9k3, ↓reduceIte,reduceCtorEq,Nat.reduceEqDiff,Nat.reduceAdd,Nat.reduceMul,Nat.reduceSub,Nat.reduceLeDiff,Nat.reduceBEq,Int.reduceToNat,Int.reduceLE,Int.reduceLT,Int.reduceEq,Int.reduceNe,di]
  rw [decide_eq_true h2,Bool.true_and] at he
  simp only [h2,res9,b9k0,b9k1,b9k2,b9k3, ↓reduceIte,reduceCtorEq,Nat.reduceEqDiff,Nat.reduceAdd,Nat.reduceMul,Nat.reduceSub,Nat.reduceLeDiff,Nat.reduceBEq,Int.reduceToNat,Int.reduceLE,Int.reduceLT,Int.reduceEq,Int.reduceNe,di]
  rw [wrap64 (n:=(i:Int)+1) (by omega) (by omega)]
  exact ih (i+1) _ _ (by omega) ⟨by omega,he⟩ (by simp only [↓reduceIte,reduceCtorEq,Nat.reduceEqDiff,Nat.reduceAdd,Nat.reduceMul,Nat.reduceSub,Nat.reduceLeDiff,Nat.reduceBEq,Int.reduceToNat,Int.reduceLE,Int.reduceLT,Int.reduceEq,Int.reduceNe,di] <;> rfl)
 ·rename_i h
  have hie:i=l.length:=by omega
  subst hie
  rw [he,List.drop_length]
  rfl
def fewW (w:Wk):Bool:=decide (w.ms.length≤7) && w.ms.all (fun m=>decide (m.nm.size≤20))
theorem l_Few {w:Wk}:Contract Try.prog 5 [plI w] (.bool (fewW w)):=by
 unfold fewW
 refine contract_run Try.func5 k5 rfl ?_
 simp only [body5,b5,res5,b5k0,b5k1,b5k2,b5k3,mdI,hrI,plI,tkI,wkI,hdI,snI, ↓reduceIte,reduceCtorEq,Nat.reduceEqDiff,Nat.reduceAdd,Nat.reduceMul,Nat.reduceSub,Nat.reduceLeDiff,Nat.reduceBEq,Int.reduceToNat,Int.reduceLE,Int.reduceLT,Int.reduceEq,Int.reduceNe,di]
 by_cases h1 : 7<w.ms.length
 case pos =>
  have h1' : 7<(w.ms.length:Int):=by omega
  rw [decide_eq_false (by omega)]
  simp only [h1',res5,b5k0,b5k1,b5k2,b5k3, ↓reduceIte,reduceCtorEq,Nat.reduceEqDiff,Nat.reduceAdd,Nat.reduceMul,Nat.reduceSub,Nat.reduceLeDiff,Nat.reduceBEq,Int.reduceToNat,Int.reduceLE,Int.reduceLT,Int.reduceEq,Int.reduceNe,di]
 have h1':¬ 7<(w.ms.length:Int):=by omega
 rw [decide_eq_true (by omega),Bool.true_and]
 simp only [h1', ↓reduceIte,reduceCtorEq,Nat.reduceEqDiff,Nat.reduceAdd,Nat.reduceMul,Nat.reduceSub,Nat.reduceLeDiff,Nat.reduceBEq,Int.reduceToNat,Int.reduceLE,Int.reduceLT,Int.reduceEq,Int.reduceNe,di]
 refine loop_keep (α:=Nat) rfl (fun i=>w.ms.length - i) (fun i=>i≤w.ms.length∧w.ms.all (fun m=>decide (m.nm.size≤20))=(w.ms.drop i).all (fun m=>decide (m.nm.size≤20)))
  (fun i=>[(1,.ref 1 0),(3,.imm (.int .i64 i))]) (fun _=>[(1,.box [.imm (.int .i64 w.lo),.imm (.int .i64 w.hi),.imm (.slc 4 (w.ms.map mdI))])]) 0 ⟨Nat.zero_le _,by rw [List.drop_zero]⟩ (by simp only [mdI,hrI,plI,tkI,wkI,hdI,snI, ↓reduceIte,reduceCtorEq,Nat.reduceEqDiff,Nat.reduceAdd,Nat.reduceMul,Nat.reduceSub,Nat.reduceLeDiff,Nat.reduceBEq,Int.reduceToNat,Int.reduceLE,Int.reduceLT,Int.reduceEq,Int.reduceNe,di] <;> rfl) ?_
 intro i ⟨hi,he⟩ ih
 simp only [res5,b5k0,b5k1,b5k2,b5k3,mdI,hrI,plI,tkI,wkI,hdI,snI, ↓reduceIte,reduceCtorEq,Nat.reduceEqDiff,Nat.reduceAdd,Nat.reduceMul,Nat.reduceSub,Nat.reduceLeDiff,Nat.reduceBEq,Int.reduceToNat,Int.reduceLE,Int.reduceLT,Int.reduceEq,Int.reduceNe,di]
 split
 ·rename_i h
  refine ⟨h,?_⟩
  have hlt:i<w.ms.length:=by omega
  rw [drop_getD hlt,List.all_cons] at he
  generalize w.ms.getD i default=x at *
  split
  ·rename_i h2
   rw [decide_eq_false (by omega),Bool.false_and] at he
   rw [he]
  ·rename_i h2
   rw [decide_eq_true (by omega),Bool.true_and] at he
   rw [wrap64 (n:=(i:Int)+1) (by omega) (by omega)]
   exact ih (i+1) _ _ (by omega) ⟨by omega,he⟩ (by simp only [mdI,hrI,plI,tkI,wkI,hdI,snI, ↓reduceIte,reduceCtorEq,Nat.reduceEqDiff,Nat.reduceAdd,Nat.reduceMul,Nat.reduceSub,Nat.reduceLeDiff,Nat.reduceBEq,Int.reduceToNat,Int.reduceLE,Int.reduceLT,Int.reduceEq,Int.reduceNe,di] <;> rfl)
 ·rename_i h
  have hie:i=w.ms.length:=by omega
  subst hie
  rw [he,List.drop_length]
  rfl
theorem l_Short {w:Wk}:Contract Try.prog 6 [tkI w] (.bool (decide (w.hs.length≤12))):=by
 refine contract_run Try.func6 k6 rfl ?_
 simp only [body6,b6,res6,mdI,hrI,plI,tkI,wkI,hdI,snI, ↓reduceIte,reduceCtorEq,Nat.reduceEqDiff,Nat.reduceAdd,Nat.reduceMul,Nat.reduceSub,Nat.reduceLeDiff,Nat.reduceBEq,Int.reduceToNat,Int.reduceLE,Int.reduceLT,Int.reduceEq,Int.reduceNe,di]
 have e:((w.hs.length:Int)≤12)=(w.hs.length≤12):=by
  apply propext
  omega
 simp only [e]
end Go.DI

/- Contracts: a valid plant and a valid task are found valid. No condition. -/
set_option linter.unusedSimpArgs false
namespace Go.DI
open Go.Proofs Go.RowKit
structure Vld (w:Wk):Prop where
 ok:WkOk w
 nm:∀ m ∈ w.ms,nameOk m.nm
 dif:∀ i,i<w.ms.length→(nmsW w i).any (· == (w.ms.getD i default).nm)=false
 pr:∀ h ∈ w.hs,h.sell≤h.buy
theorem mem_getD {α:Type} [Inhabited α] {l:List α} {x : α} (h:x ∈ l):∃ i,i<l.length∧l.getD i default=x:=by
 obtain ⟨i,hi,rfl⟩:=List.getElem_of_mem h
 exact ⟨i,hi,by rw [List.getD_eq_getElem?_getD,List.getElem?_eq_getElem hi]; rfl⟩
theorem mdE_zero {m:Md} {l:List ByteArray} (h:mdE m l=0):nameOk m.nm∧l.any (· == m.nm)=false∧mdB m:=by
 unfold mdE at h
 split at h
 ·rename_i h1
  split at h
  ·omega
  ·rename_i h2
   split at h
   ·rename_i h3
    exact ⟨h1,by simpa using h2,h3⟩
   ·omega
 ·omega
theorem hrE_zero {x:Hr} (h:hrE x=0):(Wi x.buy (-10000) 10000∧Wi x.sell (-10000) 10000∧Wi x.inf (-10000) 10000)∧x.sell≤x.buy:=by
 unfold hrE at h
 split at h
 ·rename_i h1
  split at h
  ·omega
  ·exact ⟨h1,by omega⟩
 ·omega
theorem plE_zero {w:Wk} (h:(plE w).2=0):(Wi w.lo 0 1000000∧Wi w.hi 0 1000000)∧w.lo≤w.hi∧w.hi - w.lo<40∧0<w.ms.length∧w.ms.length≤5∧∀ i,i<w.ms.length→mdE (w.ms.getD i default) (nmsW w i)=0:=by
 unfold plE at h
 split at h
 case isFalse=>cases h
 rename_i h1
 split at h
 case isTrue=>cases h
 rename_i h2
 split at h
 case isTrue=>cases h
 rename_i h3
 split at h
 case isTrue=>cases h
 rename_i h4
 split at h
 case isTrue=>cases h
 rename_i h5
 exact ⟨h1,by omega,by omega,by omega,by omega,fun i hi=>scanE_zero h i (Nat.zero_le _) (by omega)⟩
theorem tkE_zero {w:Wk} (h:(tkE w).2=0):Vld w:=by
 unfold tkE at h
 split at h
 case isFalse=>rename_i h0; exact absurd h h0
 rename_i h0
 obtain ⟨⟨p1,p2⟩,p3,p4,p5,p6,p7⟩:=plE_zero h0
 split at h
 case isFalse=>cases h
 rename_i h1
 split at h
 case isFalse=>cases h
 rename_i h2
 split at h
 case isFalse=>cases h
 rename_i h3
 split at h
 case isTrue=>cases h
 rename_i h4
 split at h
 case isTrue=>cases h
 rename_i h5
 have hs:=scanE_zero h
 have hh:∀ x ∈ w.hs,hrE x=0:=fun x hx=>by
  obtain ⟨i,hi,rfl⟩:=mem_getD hx
  exact hs i (Nat.zero_le _) (by omega)
 refine ⟨⟨p1.1,p3,p2.2,p4,p5,p6,fun m hm => ?_,h1,⟨h2.1,?_⟩,h3,by omega,by omega,fun x hx=>(hrE_zero (hh x hx)).1⟩,fun m hm => ?_,fun i hi=>(mdE_zero (p7 i hi)).2.1,fun x hx=>(hrE_zero (hh x hx)).2⟩
 ·obtain ⟨i,hi,rfl⟩:=mem_getD hm
  exact (mdE_zero (p7 i hi)).2.2
 ·have:=h2.2; omega
 ·obtain ⟨i,hi,rfl⟩:=mem_getD hm
  exact (mdE_zero (p7 i hi)).1
theorem d_withinT {x lo hi:Int} (h:Wi x lo hi):Contract Try.prog 29 [.int .i64 x,.int .i64 lo,.int .i64 hi] (.bool true):=by
 have:=d_within (x:=x) (lo:=lo) (hi:=hi)
 rw [decide_eq_true h] at this
 exact this
theorem d_isSized {x m:Int} (hm : 0≤m∧m≤1000000000):Contract Try.prog 46 [.int .i64 x,.int .i64 m] (.bool (decide (Wi x (-m) m))):=by
 refine contract_run Try.func46 k46 rfl ?_
 simp only [body46,b46,res46, ↓reduceIte,reduceCtorEq,Nat.reduceEqDiff,Nat.reduceAdd,Nat.reduceMul,Nat.reduceSub,Nat.reduceLeDiff,Nat.reduceBEq,Int.reduceToNat,Int.reduceLE,Int.reduceLT,Int.reduceEq,Int.reduceNe,di]
 rw [wrap64 (n:=0 - m) (by omega) (by omega),Int.zero_sub]
 refine calls_of d_within ?_; simp only [res46, ↓reduceIte,reduceCtorEq,Nat.reduceEqDiff,Nat.reduceAdd,Nat.reduceMul,Nat.reduceSub,Nat.reduceLeDiff,Nat.reduceBEq,Int.reduceToNat,Int.reduceLE,Int.reduceLT,Int.reduceEq,Int.reduceNe,di]
theorem d_isSizedT {x m:Int} (hm : 0≤m∧m≤1000000000) (h:Wi x (-m) m):Contract Try.prog 46 [.int .i64 x,.int .i64 m] (.bool true):=by
 have:=d_isSized (x:=x) hm
 rw [decide_eq_true h] at this
 exact this
theorem d_isPriceT {x:Int} (h:Wi x (-10000) 10000):Contract Try.prog 50 [.int .i64 x] (.bool true):=by
 refine contract_run Try.func50 k50 rfl ?_
 simp only [body50,b50,res50, ↓reduceIte,reduceCtorEq,Nat.reduceEqDiff,Nat.reduceAdd,Nat.reduceMul,Nat.reduceSub,Nat.reduceLeDiff,Nat.reduceBEq,Int.reduceToNat,Int.reduceLE,Int.reduceLT,Int.reduceEq,Int.reduceNe,di]
 refine calls_of (d_isSized (by omega)) ?_; simp only [res50, ↓reduceIte,reduceCtorEq,Nat.reduceEqDiff,Nat.reduceAdd,Nat.reduceMul,Nat.reduceSub,Nat.reduceLeDiff,Nat.reduceBEq,Int.reduceToNat,Int.reduceLE,Int.reduceLT,Int.reduceEq,Int.reduceNe,di]
 rw [decide_eq_true h]
theorem d_unless {e:Int}:Contract Try.prog 27 [.bool true,.int .i64 e] (.int .i64 0):=by
 refine contract_run Try.func27 k27 rfl ?_
 simp only [body27,b27,res27,b27k0, ↓reduceIte,reduceCtorEq,Nat.reduceEqDiff,Nat.reduceAdd,Nat.reduceMul,Nat.reduceSub,Nat.reduceLeDiff,Nat.reduceBEq,Int.reduceToNat,Int.reduceLE,Int.reduceLT,Int.reduceEq,Int.reduceNe,di]
theorem d_unlessP {p:Prop} [Decidable p] {e:Int} (h:p):Contract Try.prog 27 [.bool (decide p),.int .i64 e] (.int .i64 0):=by
 rw [decide_eq_true h]
 exact d_unless
theorem d_first {l:List Int} (hl:l.length≤1000000000) (h:∀ x ∈ l,x=0):Contract Try.prog 26 [.slc 1 (l.map (.int .i64))] (.int .i64 0):=by
 refine contract_run Try.func26 k26 rfl ?_
 simp only [body26,b26,res26,b26k0,b26k1,b26k2, ↓reduceIte,reduceCtorEq,Nat.reduceEqDiff,Nat.reduceAdd,Nat.reduceMul,Nat.reduceSub,Nat.reduceLeDiff,Nat.reduceBEq,Int.reduceToNat,Int.reduceLE,Int.reduceLT,Int.reduceEq,Int.reduceNe,di]
 refine loop_keep (α:=Nat) rfl (fun i=>l.length - i) (fun i=>i≤l.length)
  (fun i=>[(5,.imm (.slc 1 (l.map (.int .i64)))),(6,.imm (.int .i64 l.length)),(7,.imm (.int .i64 i))]) (fun _=>[]) 0 (Nat.zero_le _) (by simp only [↓reduceIte,reduceCtorEq,Nat.reduceEqDiff,Nat.reduceAdd,Nat.reduceMul,Nat.reduceSub,Nat.reduceLeDiff,Nat.reduceBEq,Int.reduceToNat,Int.reduceLE,Int.reduceLT,Int.reduceEq,Int.reduceNe,di] <;> rfl) ?_
 intro i hi ih
 simp only [res26,b26k0,b26k1,b26k2, ↓reduceIte,reduceCtorEq,Nat.reduceEqDiff,Nat.reduceAdd,Nat.reduceMul,Nat.reduceSub,Nat.reduceLeDiff,Nat.reduceBEq,Int.reduceToNat,Int.reduceLE,Int.reduceLT,Int.reduceEq,Int.reduceNe,di]
 split
 ·rename_i h1
  have hz:l.getD i 0=0:=h _ (getD_mem (show i<l.length by omega))
  repeat (refine And.intro (by omega) ?_)
  rw [if_pos hz,wrap64 (by omega) (by omega)]
  exact ih (i+1) _ _ (by omega) (by omega) (by simp only [↓reduceIte,reduceCtorEq,Nat.reduceEqDiff,Nat.reduceAdd,Nat.reduceMul,Nat.reduceSub,Nat.reduceLeDiff,Nat.reduceBEq,Int.reduceToNat,Int.reduceLE,Int.reduceLT,Int.reduceEq,Int.reduceNe,di] <;> rfl)
 ·trivial
theorem low_bd:∀ n:Fin 256,∃ r,pxI (.bit .or) [.int .u8 (n.val:Int),.int .u8 32]=some (.int .u8 r)∧((97≤r∧r≤122)↔letB (n.val:Int))∧0≤r∧r≤255:=by
 intro n
 have h:∀ n:Fin 256,(match bitI .or .u8 (n.val:Int) 32 with | some r=>decide (((97≤r∧r≤122)↔letB (n.val:Int))∧0≤r∧r≤255) | none=>false)=true:=by decide +kernel
 have:=h n
 split at this
 ·rename_i r hr
  refine ⟨r,?_,of_decide_eq_true this⟩
  show (bitI .or .u8 (n.val:Int) 32).map (IV.int .u8)=_
  rw [hr]
  rfl
 ·cases this
theorem byte_bd (s:ByteArray) (i:Nat):∃ r,pxI (.bit .or) [.int .u8 (byteAt s i),.int .u8 32]=some (.int .u8 r)∧((97≤r∧r≤122)↔letB (byteAt s i))∧0≤r∧r≤255 :=
 low_bd ⟨(s.data.toList.getD i 0).toNat,UInt8.toNat_lt _⟩
theorem byte_pos (s:ByteArray) (i:Nat) : 0≤byteAt s i∧byteAt s i≤255:=by
 have:=UInt8.toNat_lt (s.data.toList.getD i 0)
 unfold byteAt
 omega
theorem d_isName {s:ByteArray} (h:nameOk s):Contract Try.prog 61 [.str s] (.bool true):=by
 obtain ⟨h1,h2⟩:=h
 have hlen:(bytesI s).length=s.size:=by simp [bytesI]
 have hlen2:s.data.toList.length=s.size:=by simp
 refine contract_run Try.func61 k61 rfl ?_
 simp only [body61,b61,res61,b61k0,b61k1,b61k2, ↓reduceIte,reduceCtorEq,Nat.reduceEqDiff,Nat.reduceAdd,Nat.reduceMul,Nat.reduceSub,Nat.reduceLeDiff,Nat.reduceBEq,Int.reduceToNat,Int.reduceLE,Int.reduceLT,Int.reduceEq,Int.reduceNe,di]
 refine loop_keep (α:=Nat) rfl (fun i=>s.size - i) (fun i=>i≤s.size)
  (fun i=>[(0,.imm (.str s)),(7,.imm (.slc 1 (bytesI s))),(8,.imm (.int .i64 s.size)),(9,.imm (.int .i64 i))]) (fun _=>[]) 0 (Nat.zero_le _) (by rw [hlen]; simp only [↓reduceIte,reduceCtorEq,Nat.reduceEqDiff,Nat.reduceAdd,Nat.reduceMul,Nat.reduceSub,Nat.reduceLeDiff,Nat.reduceBEq,Int.reduceToNat,Int.reduceLE,Int.reduceLT,Int.reduceEq,Int.reduceNe,di] <;> rfl) ?_
 intro i hi ih
 have hin:=h2 i
 obtain ⟨r,hr,hlow,hr0,hr1⟩:=byte_bd s i
 have hb:=byte_pos s i
 have hdef:((s.data.toList.getD i default).toNat:Int)=byteAt s i:=rfl
 unfold bytesI
 simp only [res61,b61k0,b61k1,b61k2,hlen2,hdef,hr, ↓reduceIte,reduceCtorEq,Nat.reduceEqDiff,Nat.reduceAdd,Nat.reduceMul,Nat.reduceSub,Nat.reduceLeDiff,Nat.reduceBEq,Int.reduceToNat,Int.reduceLE,Int.reduceLT,Int.reduceEq,Int.reduceNe,di]
 unfold bytesI at ih
 generalize byteAt s i=c at *
 split
 ·rename_i h
  have hin:=hin (by omega)
  unfold inName at hin
  refine ⟨h,?_⟩
  rw [wrap64 (n:=r) (by omega) (by omega)]
  refine calls_of d_within ?_; simp only [res61,b61k0,b61k1,b61k2, ↓reduceIte,reduceCtorEq,Nat.reduceEqDiff,Nat.reduceAdd,Nat.reduceMul,Nat.reduceSub,Nat.reduceLeDiff,Nat.reduceBEq,Int.reduceToNat,Int.reduceLE,Int.reduceLT,Int.reduceEq,Int.reduceNe,di]
  rw [wrap64 (n:=(i:Int)+1) (by omega) (by omega)]
  by_cases g1:Wi r 97 122
  ·rw [if_pos g1]
   exact ih (i+1) _ _ (by omega) (by omega) (by simp only [↓reduceIte,reduceCtorEq,Nat.reduceEqDiff,Nat.reduceAdd,Nat.reduceMul,Nat.reduceSub,Nat.reduceLeDiff,Nat.reduceBEq,Int.reduceToNat,Int.reduceLE,Int.reduceLT,Int.reduceEq,Int.reduceNe,di] <;> rfl)
  have hn:¬ letB c:=fun k=>g1 (hlow.2 k)
  have hin:i ≠ 0∧(c=45∨48≤c∧c≤57):=hin.resolve_left hn
  rw [if_neg g1,if_neg (by omega)]
  by_cases g2:c=45
  ·rw [if_pos g2]
   exact ih (i+1) _ _ (by omega) (by omega) (by simp only [↓reduceIte,reduceCtorEq,Nat.reduceEqDiff,Nat.reduceAdd,Nat.reduceMul,Nat.reduceSub,Nat.reduceLeDiff,Nat.reduceBEq,Int.reduceToNat,Int.reduceLE,Int.reduceLT,Int.reduceEq,Int.reduceNe,di] <;> rfl)
  rw [if_neg g2,wrap64 (n:=c) (by omega) (by omega)]
  refine calls_of (d_withinT (show Wi c 48 57 by unfold Wi; omega)) ?_; simp only [res61,b61k0,b61k1,b61k2, ↓reduceIte,reduceCtorEq,Nat.reduceEqDiff,Nat.reduceAdd,Nat.reduceMul,Nat.reduceSub,Nat.reduceLeDiff,Nat.reduceBEq,Int.reduceToNat,Int.reduceLE,Int.reduceLT,Int.reduceEq,Int.reduceNe,di]
  rw [wrap64 (n:=(i:Int)+1) (by omega) (by omega)]
  exact ih (i+1) _ _ (by omega) (by omega) (by simp only [↓reduceIte,reduceCtorEq,Nat.reduceEqDiff,Nat.reduceAdd,Nat.reduceMul,Nat.reduceSub,Nat.reduceLeDiff,Nat.reduceBEq,Int.reduceToNat,Int.reduceLE,Int.reduceLT,Int.reduceEq,Int.reduceNe,di] <;> rfl)
 ·refine calls_of (d_withinT (show Wi s.size 1 12 by unfold Wi; omega)) ?_; simp only [res61,b61k0,b61k1,b61k2, ↓reduceIte,reduceCtorEq,Nat.reduceEqDiff,Nat.reduceAdd,Nat.reduceMul,Nat.reduceSub,Nat.reduceLeDiff,Nat.reduceBEq,Int.reduceToNat,Int.reduceLE,Int.reduceLT,Int.reduceEq,Int.reduceNe,di]
theorem d_IndexMode {g:FuncId} {caps:List IV} {l:List Md} (hl:l.length≤1000000000) (hp:∀ x ∈ l,Contract Try.prog g (mdI x :: caps) (.bool false)) :
  Contract Try.prog 66 [.slc 4 (l.map mdI),.func g [] caps] (.int .i64 (-1)):=by
 refine contract_run Try.func66 k66 rfl ?_
 simp only [body66,b66,res66,b66k0,b66k1,b66k2,mdI,hrI,plI,tkI,wkI,hdI,snI, ↓reduceIte,reduceCtorEq,Nat.reduceEqDiff,Nat.reduceAdd,Nat.reduceMul,Nat.reduceSub,Nat.reduceLeDiff,Nat.reduceBEq,Int.reduceToNat,Int.reduceLE,Int.reduceLT,Int.reduceEq,Int.reduceNe,di]
 refine loop_keep (α:=Nat) rfl (fun i=>l.length - i) (fun i=>i≤l.length)
  (fun i=>[(0,.imm (.slc 4 (l.map mdI))),(1,.imm (.func g [] caps)),(7,.imm (.int .i64 l.length)),(8,.imm (.int .i64 i))]) (fun _=>[]) 0 (Nat.zero_le _) (by simp only [mdI,hrI,plI,tkI,wkI,hdI,snI, ↓reduceIte,reduceCtorEq,Nat.reduceEqDiff,Nat.reduceAdd,Nat.reduceMul,Nat.reduceSub,Nat.reduceLeDiff,Nat.reduceBEq,Int.reduceToNat,Int.reduceLE,Int.reduceLT,Int.reduceEq,Int.reduceNe,di,List.length_map] <;> rfl) ?_
 intro i hi ih
 simp only [res66,b66k0,b66k1,b66k2,mdI,hrI,plI,tkI,wkI,hdI,snI, ↓reduceIte,reduceCtorEq,Nat.reduceEqDiff,Nat.reduceAdd,Nat.reduceMul,Nat.reduceSub,Nat.reduceLeDiff,Nat.reduceBEq,Int.reduceToNat,Int.reduceLE,Int.reduceLT,Int.reduceEq,Int.reduceNe,di]
 split
 ·rename_i h
  have hc:=hp _ (getD_mem (show i<l.length by omega))
  simp only [mdI] at hc
  refine ⟨h,?_⟩
  refine calls_of hc ?_; simp only [mdI,hrI,plI,tkI,wkI,hdI,snI,res66,b66k0,b66k1,b66k2, ↓reduceIte,reduceCtorEq,Nat.reduceEqDiff,Nat.reduceAdd,Nat.reduceMul,Nat.reduceSub,Nat.reduceLeDiff,Nat.reduceBEq,Int.reduceToNat,Int.reduceLE,Int.reduceLT,Int.reduceEq,Int.reduceNe,di]
  rw [wrap64 (by omega) (by omega)]
  exact ih (i+1) _ _ (by omega) (by omega) (by simp only [mdI,hrI,plI,tkI,wkI,hdI,snI, ↓reduceIte,reduceCtorEq,Nat.reduceEqDiff,Nat.reduceAdd,Nat.reduceMul,Nat.reduceSub,Nat.reduceLeDiff,Nat.reduceBEq,Int.reduceToNat,Int.reduceLE,Int.reduceLT,Int.reduceEq,Int.reduceNe,di] <;> rfl)
 ·trivial
theorem d_ContainsMode {g:FuncId} {caps:List IV} {l:List Md} (hl:l.length≤1000000000) (hp:∀ x ∈ l,Contract Try.prog g (mdI x :: caps) (.bool false)) :
  Contract Try.prog 59 [.slc 4 (l.map mdI),.func g [] caps] (.bool false):=by
 refine contract_run Try.func59 k59 rfl ?_
 simp only [body59,b59,res59,mdI,hrI,plI,tkI,wkI,hdI,snI, ↓reduceIte,reduceCtorEq,Nat.reduceEqDiff,Nat.reduceAdd,Nat.reduceMul,Nat.reduceSub,Nat.reduceLeDiff,Nat.reduceBEq,Int.reduceToNat,Int.reduceLE,Int.reduceLT,Int.reduceEq,Int.reduceNe,di]
 refine calls_of (d_IndexMode hl hp) ?_; simp only [mdI,hrI,plI,tkI,wkI,hdI,snI,res59, ↓reduceIte,reduceCtorEq,Nat.reduceEqDiff,Nat.reduceAdd,Nat.reduceMul,Nat.reduceSub,Nat.reduceLeDiff,Nat.reduceBEq,Int.reduceToNat,Int.reduceLE,Int.reduceLT,Int.reduceEq,Int.reduceNe,di]
theorem d_sameName {x m:Md} (h:(x.nm == m.nm)=false):Contract Try.prog 60 [mdI x,.ptr (mdI m)] (.bool false):=by
 refine contract_run Try.func60 k60 rfl ?_
 simp only [body60,b60,res60,mdI,hrI,plI,tkI,wkI,hdI,snI, ↓reduceIte,reduceCtorEq,Nat.reduceEqDiff,Nat.reduceAdd,Nat.reduceMul,Nat.reduceSub,Nat.reduceLeDiff,Nat.reduceBEq,Int.reduceToNat,Int.reduceLE,Int.reduceLT,Int.reduceEq,Int.reduceNe,di]
 rw [h]
theorem d_isVolumeT {x:Int} (h:Wi x 0 1000000):Contract Try.prog 58 [.int .i64 x] (.bool true):=by
 refine contract_run Try.func58 k58 rfl ?_
 simp only [body58,b58,res58, ↓reduceIte,reduceCtorEq,Nat.reduceEqDiff,Nat.reduceAdd,Nat.reduceMul,Nat.reduceSub,Nat.reduceLeDiff,Nat.reduceBEq,Int.reduceToNat,Int.reduceLE,Int.reduceLT,Int.reduceEq,Int.reduceNe,di]
 refine calls_of (d_withinT h) ?_; simp only [res58, ↓reduceIte,reduceCtorEq,Nat.reduceEqDiff,Nat.reduceAdd,Nat.reduceMul,Nat.reduceSub,Nat.reduceLeDiff,Nat.reduceBEq,Int.reduceToNat,Int.reduceLE,Int.reduceLT,Int.reduceEq,Int.reduceNe,di]
theorem d_CheckPlant {w:Wk} (v:Vld w):Contract Try.prog 49 [plI w] (.tup [.int .i64 0,.int .i64 0]):=by
 have ok:=v.ok
 have o1:=ok.lo; have o2:=ok.lh; have o3:=ok.hi; have o4:=ok.span; have o5:=ok.m0; have o6:=ok.m5
 refine contract_run Try.func49 k49 rfl ?_
 simp only [body49,b49,res49,b49k0,b49k1,b49k2,b49k3,mdI,hrI,plI,tkI,wkI,hdI,snI, ↓reduceIte,reduceCtorEq,Nat.reduceEqDiff,Nat.reduceAdd,Nat.reduceMul,Nat.reduceSub,Nat.reduceLeDiff,Nat.reduceBEq,Int.reduceToNat,Int.reduceLE,Int.reduceLT,Int.reduceEq,Int.reduceNe,di]
 refine calls_of (d_isVolumeT (x:=w.lo) ⟨by omega,by omega⟩) ?_; simp only [mdI,hrI,plI,tkI,wkI,hdI,snI,res49,b49k0,b49k1,b49k2,b49k3, ↓reduceIte,reduceCtorEq,Nat.reduceEqDiff,Nat.reduceAdd,Nat.reduceMul,Nat.reduceSub,Nat.reduceLeDiff,Nat.reduceBEq,Int.reduceToNat,Int.reduceLE,Int.reduceLT,Int.reduceEq,Int.reduceNe,di]
 refine calls_of (d_isVolumeT (x:=w.hi) ⟨by omega,by omega⟩) ?_; simp only [mdI,hrI,plI,tkI,wkI,hdI,snI,res49,b49k0,b49k1,b49k2,b49k3, ↓reduceIte,reduceCtorEq,Nat.reduceEqDiff,Nat.reduceAdd,Nat.reduceMul,Nat.reduceSub,Nat.reduceLeDiff,Nat.reduceBEq,Int.reduceToNat,Int.reduceLE,Int.reduceLT,Int.reduceEq,Int.reduceNe,di]
 refine calls_of d_unless ?_; simp only [mdI,hrI,plI,tkI,wkI,hdI,snI,res49,b49k0,b49k1,b49k2,b49k3, ↓reduceIte,reduceCtorEq,Nat.reduceEqDiff,Nat.reduceAdd,Nat.reduceMul,Nat.reduceSub,Nat.reduceLeDiff,Nat.reduceBEq,Int.reduceToNat,Int.reduceLE,Int.reduceLT,Int.reduceEq,Int.reduceNe,di]
 refine calls_of (d_unlessP o2) ?_; simp only [mdI,hrI,plI,tkI,wkI,hdI,snI,res49,b49k0,b49k1,b49k2,b49k3, ↓reduceIte,reduceCtorEq,Nat.reduceEqDiff,Nat.reduceAdd,Nat.reduceMul,Nat.reduceSub,Nat.reduceLeDiff,Nat.reduceBEq,Int.reduceToNat,Int.reduceLE,Int.reduceLT,Int.reduceEq,Int.reduceNe,di]
 rw [wrap64 (n:=w.hi - w.lo) (by omega) (by omega)]
 refine calls_of (d_unlessP o4) ?_; simp only [mdI,hrI,plI,tkI,wkI,hdI,snI,res49,b49k0,b49k1,b49k2,b49k3, ↓reduceIte,reduceCtorEq,Nat.reduceEqDiff,Nat.reduceAdd,Nat.reduceMul,Nat.reduceSub,Nat.reduceLeDiff,Nat.reduceBEq,Int.reduceToNat,Int.reduceLE,Int.reduceLT,Int.reduceEq,Int.reduceNe,di]
 refine calls_of (d_unlessP (show 0<(w.ms.length:Int) by omega)) ?_; simp only [mdI,hrI,plI,tkI,wkI,hdI,snI,res49,b49k0,b49k1,b49k2,b49k3, ↓reduceIte,reduceCtorEq,Nat.reduceEqDiff,Nat.reduceAdd,Nat.reduceMul,Nat.reduceSub,Nat.reduceLeDiff,Nat.reduceBEq,Int.reduceToNat,Int.reduceLE,Int.reduceLT,Int.reduceEq,Int.reduceNe,di]
 refine calls_of (d_unlessP (show (w.ms.length:Int)≤5 by omega)) ?_; simp only [mdI,hrI,plI,tkI,wkI,hdI,snI,res49,b49k0,b49k1,b49k2,b49k3, ↓reduceIte,reduceCtorEq,Nat.reduceEqDiff,Nat.reduceAdd,Nat.reduceMul,Nat.reduceSub,Nat.reduceLeDiff,Nat.reduceBEq,Int.reduceToNat,Int.reduceLE,Int.reduceLT,Int.reduceEq,Int.reduceNe,di]
 refine calls_of (d_first (l:=[0,0,0,0,0]) (by decide) (by decide)) ?_; simp only [mdI,hrI,plI,tkI,wkI,hdI,snI,res49,b49k0,b49k1,b49k2,b49k3, ↓reduceIte,reduceCtorEq,Nat.reduceEqDiff,Nat.reduceAdd,Nat.reduceMul,Nat.reduceSub,Nat.reduceLeDiff,Nat.reduceBEq,Int.reduceToNat,Int.reduceLE,Int.reduceLT,Int.reduceEq,Int.reduceNe,di]
 refine loop_keep (α:=Nat) rfl (fun i=>w.ms.length - i) (fun i=>i≤w.ms.length)
  (fun i=>[(1,.ref 1 0),(51,.imm (.slc 4 (w.ms.map mdI))),(52,.imm (.int .i64 w.ms.length)),(53,.imm (.int .i64 i))]) (fun _=>[(1,.box [.imm (.int .i64 w.lo),.imm (.int .i64 w.hi),.imm (.slc 4 (w.ms.map mdI))])]) 0 (Nat.zero_le _) (by simp only [mdI,hrI,plI,tkI,wkI,hdI,snI, ↓reduceIte,reduceCtorEq,Nat.reduceEqDiff,Nat.reduceAdd,Nat.reduceMul,Nat.reduceSub,Nat.reduceLeDiff,Nat.reduceBEq,Int.reduceToNat,Int.reduceLE,Int.reduceLT,Int.reduceEq,Int.reduceNe,di] <;> rfl) ?_
 intro i hi ih
 simp only [res49,b49k0,b49k1,b49k2,b49k3,mdI,hrI,plI,tkI,wkI,hdI,snI, ↓reduceIte,reduceCtorEq,Nat.reduceEqDiff,Nat.reduceAdd,Nat.reduceMul,Nat.reduceSub,Nat.reduceLeDiff,Nat.reduceBEq,Int.reduceToNat,Int.reduceLE,Int.reduceLT,Int.reduceEq,Int.reduceNe,di]
 split
 ·rename_i h
  have hlt:i<w.ms.length:=by omega
  have hm:=ok.ms _ (getD_mem hlt)
  have hn:=v.nm _ (getD_mem hlt)
  have hd:=v.dif i hlt
  have hc:=d_ContainsMode (l:=w.ms.take i) (g:=60) (caps:=[.ptr (mdI (w.ms.getD i default))]) (by rw [List.length_take]; omega) (fun x hx=>d_sameName (by
   have:=List.any_eq_false.1 hd x.nm (List.mem_map_of_mem hx)
   simpa using this))
  generalize w.ms.getD i default=x at *
  simp only [mdI] at hc
  repeat (refine And.intro (by omega) ?_)
  refine calls_of hc ?_; simp only [mdI,hrI,plI,tkI,wkI,hdI,snI,res49,b49k0,b49k1,b49k2,b49k3, ↓reduceIte,reduceCtorEq,Nat.reduceEqDiff,Nat.reduceAdd,Nat.reduceMul,Nat.reduceSub,Nat.reduceLeDiff,Nat.reduceBEq,Int.reduceToNat,Int.reduceLE,Int.reduceLT,Int.reduceEq,Int.reduceNe,di]
  refine calls_of (d_isSizedT (m:=10000) (by omega) hm.1) ?_; simp only [mdI,hrI,plI,tkI,wkI,hdI,snI,res49,b49k0,b49k1,b49k2,b49k3, ↓reduceIte,reduceCtorEq,Nat.reduceEqDiff,Nat.reduceAdd,Nat.reduceMul,Nat.reduceSub,Nat.reduceLeDiff,Nat.reduceBEq,Int.reduceToNat,Int.reduceLE,Int.reduceLT,Int.reduceEq,Int.reduceNe,di]
  refine calls_of (d_isSizedT (m:=10000) (by omega) hm.2.1) ?_; simp only [mdI,hrI,plI,tkI,wkI,hdI,snI,res49,b49k0,b49k1,b49k2,b49k3, ↓reduceIte,reduceCtorEq,Nat.reduceEqDiff,Nat.reduceAdd,Nat.reduceMul,Nat.reduceSub,Nat.reduceLeDiff,Nat.reduceBEq,Int.reduceToNat,Int.reduceLE,Int.reduceLT,Int.reduceEq,Int.reduceNe,di]
  refine calls_of (d_withinT hm.2.2) ?_; simp only [mdI,hrI,plI,tkI,wkI,hdI,snI,res49,b49k0,b49k1,b49k2,b49k3, ↓reduceIte,reduceCtorEq,Nat.reduceEqDiff,Nat.reduceAdd,Nat.reduceMul,Nat.reduceSub,Nat.reduceLeDiff,Nat.reduceBEq,Int.reduceToNat,Int.reduceLE,Int.reduceLT,Int.reduceEq,Int.reduceNe,di]
  refine calls_of (d_isName hn) ?_; simp only [mdI,hrI,plI,tkI,wkI,hdI,snI,res49,b49k0,b49k1,b49k2,b49k3, ↓reduceIte,reduceCtorEq,Nat.reduceEqDiff,Nat.reduceAdd,Nat.reduceMul,Nat.reduceSub,Nat.reduceLeDiff,Nat.reduceBEq,Int.reduceToNat,Int.reduceLE,Int.reduceLT,Int.reduceEq,Int.reduceNe,di]
  refine calls_of d_unless ?_; simp only [mdI,hrI,plI,tkI,wkI,hdI,snI,res49,b49k0,b49k1,b49k2,b49k3, ↓reduceIte,reduceCtorEq,Nat.reduceEqDiff,Nat.reduceAdd,Nat.reduceMul,Nat.reduceSub,Nat.reduceLeDiff,Nat.reduceBEq,Int.reduceToNat,Int.reduceLE,Int.reduceLT,Int.reduceEq,Int.reduceNe,di]
  refine calls_of d_unless ?_; simp only [mdI,hrI,plI,tkI,wkI,hdI,snI,res49,b49k0,b49k1,b49k2,b49k3, ↓reduceIte,reduceCtorEq,Nat.reduceEqDiff,Nat.reduceAdd,Nat.reduceMul,Nat.reduceSub,Nat.reduceLeDiff,Nat.reduceBEq,Int.reduceToNat,Int.reduceLE,Int.reduceLT,Int.reduceEq,Int.reduceNe,di]
  refine calls_of d_unless ?_; simp only [mdI,hrI,plI,tkI,wkI,hdI,snI,res49,b49k0,b49k1,b49k2,b49k3, ↓reduceIte,reduceCtorEq,Nat.reduceEqDiff,Nat.reduceAdd,Nat.reduceMul,Nat.reduceSub,Nat.reduceLeDiff,Nat.reduceBEq,Int.reduceToNat,Int.reduceLE,Int.reduceLT,Int.reduceEq,Int.reduceNe,di]
  refine calls_of (d_first (l:=[0,0,0]) (by decide) (by decide)) ?_; simp only [mdI,hrI,plI,tkI,wkI,hdI,snI,res49,b49k0,b49k1,b49k2,b49k3, ↓reduceIte,reduceCtorEq,Nat.reduceEqDiff,Nat.reduceAdd,Nat.reduceMul,Nat.reduceSub,Nat.reduceLeDiff,Nat.reduceBEq,Int.reduceToNat,Int.reduceLE,Int.reduceLT,Int.reduceEq,Int.reduceNe,di]
  rw [wrap64 (n:=(i:Int)+1) (by omega) (by omega)]
  exact ih (i+1) _ _ (by omega) (by omega) (by simp only [mdI,hrI,plI,tkI,wkI,hdI,snI, ↓reduceIte,reduceCtorEq,Nat.reduceEqDiff,Nat.reduceAdd,Nat.reduceMul,Nat.reduceSub,Nat.reduceLeDiff,Nat.reduceBEq,Int.reduceToNat,Int.reduceLE,Int.reduceLT,Int.reduceEq,Int.reduceNe,di] <;> rfl)
 ·trivial
theorem d_CheckTask {w:Wk} (v:Vld w):Contract Try.prog 37 [plI w,tkI w] (.tup [.int .i64 0,.int .i64 0]):=by
 have ok:=v.ok
 have o5:=ok.m0; have o6:=ok.m5; have o7:=ok.vol; have o8:=ok.mode; have o9:=ok.h0; have o10:=ok.h10
 have hp:=d_CheckPlant v
 simp only [plI] at hp
 refine contract_run Try.func37 k37 rfl ?_
 simp only [body37,b37,res37,b37k0,b37k1,b37k2,b37k3,mdI,hrI,plI,tkI,wkI,hdI,snI, ↓reduceIte,reduceCtorEq,Nat.reduceEqDiff,Nat.reduceAdd,Nat.reduceMul,Nat.reduceSub,Nat.reduceLeDiff,Nat.reduceBEq,Int.reduceToNat,Int.reduceLE,Int.reduceLT,Int.reduceEq,Int.reduceNe,di]
 refine calls_of hp ?_; simp only [mdI,hrI,plI,tkI,wkI,hdI,snI,res37,b37k0,b37k1,b37k2,b37k3, ↓reduceIte,reduceCtorEq,Nat.reduceEqDiff,Nat.reduceAdd,Nat.reduceMul,Nat.reduceSub,Nat.reduceLeDiff,Nat.reduceBEq,Int.reduceToNat,Int.reduceLE,Int.reduceLT,Int.reduceEq,Int.reduceNe,di]
 refine calls_of (d_withinT o7) ?_; simp only [mdI,hrI,plI,tkI,wkI,hdI,snI,res37,b37k0,b37k1,b37k2,b37k3, ↓reduceIte,reduceCtorEq,Nat.reduceEqDiff,Nat.reduceAdd,Nat.reduceMul,Nat.reduceSub,Nat.reduceLeDiff,Nat.reduceBEq,Int.reduceToNat,Int.reduceLE,Int.reduceLT,Int.reduceEq,Int.reduceNe,di]
 refine calls_of d_unless ?_; simp only [mdI,hrI,plI,tkI,wkI,hdI,snI,res37,b37k0,b37k1,b37k2,b37k3, ↓reduceIte,reduceCtorEq,Nat.reduceEqDiff,Nat.reduceAdd,Nat.reduceMul,Nat.reduceSub,Nat.reduceLeDiff,Nat.reduceBEq,Int.reduceToNat,Int.reduceLE,Int.reduceLT,Int.reduceEq,Int.reduceNe,di]
 rw [wrap64 (n:=(w.ms.length:Int) - 1) (by omega) (by omega)]
 refine calls_of (d_withinT (show Wi w.mode 0 (w.ms.length - 1) from ⟨o8.1,by omega⟩)) ?_; simp only [mdI,hrI,plI,tkI,wkI,hdI,snI,res37,b37k0,b37k1,b37k2,b37k3, ↓reduceIte,reduceCtorEq,Nat.reduceEqDiff,Nat.reduceAdd,Nat.reduceMul,Nat.reduceSub,Nat.reduceLeDiff,Nat.reduceBEq,Int.reduceToNat,Int.reduceLE,Int.reduceLT,Int.reduceEq,Int.reduceNe,di]
 refine calls_of d_unless ?_; simp only [mdI,hrI,plI,tkI,wkI,hdI,snI,res37,b37k0,b37k1,b37k2,b37k3, ↓reduceIte,reduceCtorEq,Nat.reduceEqDiff,Nat.reduceAdd,Nat.reduceMul,Nat.reduceSub,Nat.reduceLeDiff,Nat.reduceBEq,Int.reduceToNat,Int.reduceLE,Int.reduceLT,Int.reduceEq,Int.reduceNe,di]
 refine calls_of (d_isPriceT ok.worth) ?_; simp only [mdI,hrI,plI,tkI,wkI,hdI,snI,res37,b37k0,b37k1,b37k2,b37k3, ↓reduceIte,reduceCtorEq,Nat.reduceEqDiff,Nat.reduceAdd,Nat.reduceMul,Nat.reduceSub,Nat.reduceLeDiff,Nat.reduceBEq,Int.reduceToNat,Int.reduceLE,Int.reduceLT,Int.reduceEq,Int.reduceNe,di]
 refine calls_of d_unless ?_; simp only [mdI,hrI,plI,tkI,wkI,hdI,snI,res37,b37k0,b37k1,b37k2,b37k3, ↓reduceIte,reduceCtorEq,Nat.reduceEqDiff,Nat.reduceAdd,Nat.reduceMul,Nat.reduceSub,Nat.reduceLeDiff,Nat.reduceBEq,Int.reduceToNat,Int.reduceLE,Int.reduceLT,Int.reduceEq,Int.reduceNe,di]
 refine calls_of (d_unlessP (show 0<(w.hs.length:Int) by omega)) ?_; simp only [mdI,hrI,plI,tkI,wkI,hdI,snI,res37,b37k0,b37k1,b37k2,b37k3, ↓reduceIte,reduceCtorEq,Nat.reduceEqDiff,Nat.reduceAdd,Nat.reduceMul,Nat.reduceSub,Nat.reduceLeDiff,Nat.reduceBEq,Int.reduceToNat,Int.reduceLE,Int.reduceLT,Int.reduceEq,Int.reduceNe,di]
 refine calls_of (d_unlessP (show (w.hs.length:Int)≤10 by omega)) ?_; simp only [mdI,hrI,plI,tkI,wkI,hdI,snI,res37,b37k0,b37k1,b37k2,b37k3, ↓reduceIte,reduceCtorEq,Nat.reduceEqDiff,Nat.reduceAdd,Nat.reduceMul,Nat.reduceSub,Nat.reduceLeDiff,Nat.reduceBEq,Int.reduceToNat,Int.reduceLE,Int.reduceLT,Int.reduceEq,Int.reduceNe,di]
 refine calls_of (d_first (l:=[0,0,0,0,0,0]) (by decide) (by decide)) ?_; simp only [mdI,hrI,plI,tkI,wkI,hdI,snI,res37,b37k0,b37k1,b37k2,b37k3, ↓reduceIte,reduceCtorEq,Nat.reduceEqDiff,Nat.reduceAdd,Nat.reduceMul,Nat.reduceSub,Nat.reduceLeDiff,Nat.reduceBEq,Int.reduceToNat,Int.reduceLE,Int.reduceLT,Int.reduceEq,Int.reduceNe,di]
 refine loop_keep (α:=Nat) rfl (fun i=>w.hs.length - i) (fun i=>i≤w.hs.length)
  (fun i=>[(53,.imm (.slc 3 (w.hs.map hrI))),(54,.imm (.int .i64 w.hs.length)),(55,.imm (.int .i64 i))]) (fun _=>[]) 0 (Nat.zero_le _) (by simp only [mdI,hrI,plI,tkI,wkI,hdI,snI, ↓reduceIte,reduceCtorEq,Nat.reduceEqDiff,Nat.reduceAdd,Nat.reduceMul,Nat.reduceSub,Nat.reduceLeDiff,Nat.reduceBEq,Int.reduceToNat,Int.reduceLE,Int.reduceLT,Int.reduceEq,Int.reduceNe,di] <;> rfl) ?_
 intro i hi ih
 simp only [res37,b37k0,b37k1,b37k2,b37k3,mdI,hrI,plI,tkI,wkI,hdI,snI, ↓reduceIte,reduceCtorEq,Nat.reduceEqDiff,Nat.reduceAdd,Nat.reduceMul,Nat.reduceSub,Nat.reduceLeDiff,Nat.reduceBEq,Int.reduceToNat,Int.reduceLE,Int.reduceLT,Int.reduceEq,Int.reduceNe,di]
 split
 ·rename_i h
  have hlt:i<w.hs.length:=by omega
  have hm:=ok.hs _ (getD_mem hlt)
  have hn:=v.pr _ (getD_mem hlt)
  generalize w.hs.getD i default=x at *
  repeat (refine And.intro (by omega) ?_)
  refine calls_of (d_isPriceT hm.1) ?_; simp only [mdI,hrI,plI,tkI,wkI,hdI,snI,res37,b37k0,b37k1,b37k2,b37k3, ↓reduceIte,reduceCtorEq,Nat.reduceEqDiff,Nat.reduceAdd,Nat.reduceMul,Nat.reduceSub,Nat.reduceLeDiff,Nat.reduceBEq,Int.reduceToNat,Int.reduceLE,Int.reduceLT,Int.reduceEq,Int.reduceNe,di]
  refine calls_of (d_isPriceT hm.2.1) ?_; simp only [mdI,hrI,plI,tkI,wkI,hdI,snI,res37,b37k0,b37k1,b37k2,b37k3, ↓reduceIte,reduceCtorEq,Nat.reduceEqDiff,Nat.reduceAdd,Nat.reduceMul,Nat.reduceSub,Nat.reduceLeDiff,Nat.reduceBEq,Int.reduceToNat,Int.reduceLE,Int.reduceLT,Int.reduceEq,Int.reduceNe,di]
  refine calls_of (d_isPriceT hm.2.2) ?_; simp only [mdI,hrI,plI,tkI,wkI,hdI,snI,res37,b37k0,b37k1,b37k2,b37k3, ↓reduceIte,reduceCtorEq,Nat.reduceEqDiff,Nat.reduceAdd,Nat.reduceMul,Nat.reduceSub,Nat.reduceLeDiff,Nat.reduceBEq,Int.reduceToNat,Int.reduceLE,Int.reduceLT,Int.reduceEq,Int.reduceNe,di]
  refine calls_of d_unless ?_; simp only [mdI,hrI,plI,tkI,wkI,hdI,snI,res37,b37k0,b37k1,b37k2,b37k3, ↓reduceIte,reduceCtorEq,Nat.reduceEqDiff,Nat.reduceAdd,Nat.reduceMul,Nat.reduceSub,Nat.reduceLeDiff,Nat.reduceBEq,Int.reduceToNat,Int.reduceLE,Int.reduceLT,Int.reduceEq,Int.reduceNe,di]
  refine calls_of (d_unlessP hn) ?_; simp only [mdI,hrI,plI,tkI,wkI,hdI,snI,res37,b37k0,b37k1,b37k2,b37k3, ↓reduceIte,reduceCtorEq,Nat.reduceEqDiff,Nat.reduceAdd,Nat.reduceMul,Nat.reduceSub,Nat.reduceLeDiff,Nat.reduceBEq,Int.reduceToNat,Int.reduceLE,Int.reduceLT,Int.reduceEq,Int.reduceNe,di]
  refine calls_of (d_first (l:=[0,0]) (by decide) (by decide)) ?_; simp only [mdI,hrI,plI,tkI,wkI,hdI,snI,res37,b37k0,b37k1,b37k2,b37k3, ↓reduceIte,reduceCtorEq,Nat.reduceEqDiff,Nat.reduceAdd,Nat.reduceMul,Nat.reduceSub,Nat.reduceLeDiff,Nat.reduceBEq,Int.reduceToNat,Int.reduceLE,Int.reduceLT,Int.reduceEq,Int.reduceNe,di]
  rw [wrap64 (n:=(i:Int)+1) (by omega) (by omega)]
  exact ih (i+1) _ _ (by omega) (by omega) (by simp only [mdI,hrI,plI,tkI,wkI,hdI,snI, ↓reduceIte,reduceCtorEq,Nat.reduceEqDiff,Nat.reduceAdd,Nat.reduceMul,Nat.reduceSub,Nat.reduceLeDiff,Nat.reduceBEq,Int.reduceToNat,Int.reduceLE,Int.reduceLT,Int.reduceEq,Int.reduceNe,di] <;> rfl)
 ·trivial
theorem d_open {w:Wk} (v:Vld w):Contract Try.prog 25 [plI w,tkI w] (.tup [wkI w,.int .i64 0]):=by
 have hp:=d_CheckTask v
 simp only [plI,tkI] at hp
 refine contract_run Try.func25 k25 rfl ?_
 simp only [body25,b25,res25,mdI,hrI,plI,tkI,wkI,hdI,snI, ↓reduceIte,reduceCtorEq,Nat.reduceEqDiff,Nat.reduceAdd,Nat.reduceMul,Nat.reduceSub,Nat.reduceLeDiff,Nat.reduceBEq,Int.reduceToNat,Int.reduceLE,Int.reduceLT,Int.reduceEq,Int.reduceNe,di]
 refine calls_of hp ?_; simp only [mdI,hrI,plI,tkI,wkI,hdI,snI,res25, ↓reduceIte,reduceCtorEq,Nat.reduceEqDiff,Nat.reduceAdd,Nat.reduceMul,Nat.reduceSub,Nat.reduceLeDiff,Nat.reduceBEq,Int.reduceToNat,Int.reduceLE,Int.reduceLT,Int.reduceEq,Int.reduceNe,di]
end Go.DI


/- Contracts of plans, loads and orders. No condition. -/
import Derived.Test.YtaphhpphfffnfaaGreatDoorTwGe
import Derived.Test.YtaphhpphfffnfaaGreatDoorProg
import Derived.KernelRfl
import Derived.Test.YtaphhpphfffnfaaGreatDoorTwGh
/- The functions of the surge chambers' plans, as data. No condition. -/
namespace Go.DI
open Go.Proofs Go.RowKit
def b286k0:DCode :=
 (.region [⟨some 41,(.bin .add),[.t 24,.c (.int .i64 1)],none,[]⟩,
 ⟨some 24,.mov,[.t 41],none,[0]⟩] false)
def b286k1:DCode :=
 (.seq
 (.block 1
 (.seq
 (.region [⟨some 26,.mov,[.t 24],none,[]⟩,
 ⟨some 27,(.iaddr 1),[.t 22,.t 24],none,[]⟩,
 ⟨some 28,(.load false 1),[.t 27],none,[1]⟩,
 ⟨some 5,.mov,[.t 26],none,[0,0,1,2]⟩,
 ⟨some 6,.mov,[.t 28],none,[2,3,0,1,2,3]⟩] false)
 (.seq
 (.region [⟨some 29,.mov,[.t 6],none,[]⟩,
 ⟨some 30,.call,[.f 206,.t 29,.c (.int .i64 (-1000)),.c (.int .i64 1000)],none,[0]⟩,
 ⟨some 31,.call,[.f 163,.t 30,.c (.int .i64 2)],none,[1,1]⟩,
 ⟨some 32,.mov,[.t 6],none,[]⟩,
 ⟨some 33,(.bin .neq),[.t 32,.c (.int .i64 0)],none,[3]⟩,
 ⟨some 34,.call,[.f 163,.t 33,.c (.int .i64 11)],none,[4,2]⟩,
 ⟨some 35,(.bsl 1),[.t 31,.t 34],none,[2,5]⟩,
 ⟨some 36,.call,[.f 158,.t 35],none,[6,5]⟩,
 ⟨some 7,.mov,[.t 36],none,[7,7,0,1,2,3,4,5,6,7]⟩] false)
 (.seq
 (.region [⟨some 37,.mov,[.t 7],none,[]⟩,
 ⟨some 38,(.bin .neq),[.t 37,.c (.int .i64 0)],none,[0]⟩] false)
 (.cond (.t 38)
 (.seq
 (.region [⟨some 39,.mov,[.t 5],none,[]⟩,
 ⟨some 40,.mov,[.t 7],none,[]⟩,
 ⟨some 2,.mov,[.t 39],none,[0,0]⟩,
 ⟨some 3,.mov,[.t 40],none,[1,2,0,1,2]⟩] false)
 .ret)
 .skip)))))
 (.keep [1,22,23,24] [1] b286k0))
def b286l0:DCode:=.keep [1,22,23,24] [1]
 (.seq
 (.region [⟨some 25,(.bin .lss),[.t 24,.t 23],none,[]⟩] false)
 (.seq
 (.cond (.t 25)
 .skip
 (.exit 0))
 (.keep [1,22,23,24] [1] b286k1)))
def b286k2:DCode :=
 (.seq
 (.region [⟨some 42,(.faddr 2 false 1),[.t 1],none,[]⟩,
 ⟨some 43,(.load false 1),[.t 42],none,[0]⟩,
 ⟨some 44,.call,[.f 206,.t 43,.c (.int .i64 1),.c (.int .i64 20)],none,[1]⟩,
 ⟨some 45,.mov,[.t 44],none,[2,2]⟩,
 ⟨some 46,(.faddr 3 false 1),[.t 1],(some (45,true)),[3]⟩,
 ⟨some 47,(.load false 1),[.t 46],(some (45,true)),[4,3]⟩,
 ⟨some 48,.call,[.f 206,.t 47,.c (.int .i64 1),.c (.int .i64 200)],(some (45,true)),[5,3,3]⟩,
 ⟨some 49,.pick,[.t 45,.t 48,.c (.bool false)],none,[3,6]⟩,
 ⟨some 50,.call,[.f 163,.t 49,.c (.int .i64 2)],none,[7,6]⟩,
 ⟨some 2,.mov,[.c (.int .i64 0)],none,[8]⟩,
 ⟨some 3,.mov,[.t 50],none,[8,9,0,1,2,3,4,5,6,7,8,9]⟩] false)
 .ret)
def b286k3:DCode :=
 (.seq
 (.seq
 (.region [⟨some 21,(.faddr 1 false 1),[.t 1],none,[]⟩,
 ⟨some 22,(.load false 1),[.t 21],none,[0]⟩,
 ⟨some 23,.len,[.t 22],none,[1]⟩,
 ⟨some 24,.mov,[.c (.int .i64 0)],none,[]⟩] false)
 (.block 0
 (.loop b286l0)))
 (.keep [1] [1] b286k2))
def b286:DCode :=
 (.seq
 (.region [⟨some 1,.box,[.t 0],none,[]⟩,
 ⟨some 2,.mov,[.c (.int .i64 0)],none,[]⟩,
 ⟨some 3,.mov,[.c (.int .i64 0)],none,[1]⟩] false)
 (.seq
 (.seq
 (.region [⟨some 8,(.faddr 0 false 1),[.t 1],none,[]⟩,
 ⟨some 9,(.load false 1),[.t 8],none,[0]⟩,
 ⟨some 10,.call,[.f 170,.t 9],none,[1]⟩,
 ⟨some 11,(.faddr 1 false 1),[.t 1],none,[]⟩,
 ⟨some 12,(.load false 1),[.t 11],none,[3]⟩,
 ⟨some 13,.len,[.t 12],none,[4]⟩,
 ⟨some 14,(.bin .leq),[.t 13,.c (.int .i64 4)],none,[5]⟩,
 ⟨some 15,.call,[.f 163,.t 14,.c (.int .i64 8)],none,[6,2]⟩,
 ⟨some 16,(.bsl 1),[.t 10,.t 15],none,[2,7]⟩,
 ⟨some 17,.call,[.f 158,.t 16],none,[8,7]⟩,
 ⟨some 4,.mov,[.t 17],none,[9,9,0,1,2,3,4,5,6,7,8,9]⟩] true)
 (.seq
 (.region [⟨some 18,.mov,[.t 4],none,[]⟩,
 ⟨some 19,(.bin .neq),[.t 18,.c (.int .i64 0)],none,[0]⟩] false)
 (.cond (.t 19)
 (.seq
 (.region [⟨some 20,.mov,[.t 4],none,[]⟩,
 ⟨some 2,.mov,[.c (.int .i64 0)],none,[]⟩,
 ⟨some 3,.mov,[.t 20],none,[0,1,0,1]⟩] false)
 .ret)
 .skip)))
 (.keep [1] [1] b286k3)))
def d286:DFn:=⟨1,51,[.tmp 2,.tmp 3],b286⟩
theorem body286:d286.body=b286:=rfl
theorem res286:d286.res=[.tmp 2,.tmp 3]:=rfl
theorem k286:chkFn Tryz.prog Tryz.f286 d286=true:=by kernel_rfl
def b232k0:DCode :=
 (.seq
 (.region [⟨some 12,(.load true 4),[.t 3],none,[]⟩,
 ⟨some 13,.call,[.f 286,.t 12],none,[0]⟩,
 ⟨some 14,(.ext 0),[.t 13],none,[1]⟩,
 ⟨some 15,(.ext 1),[.t 13],none,[1]⟩,
 ⟨some 4,.mov,[.t 14],none,[2,1,0,1,2,3]⟩,
 ⟨some 5,.mov,[.t 15],none,[3,4,0,1,2,3,4]⟩] false)
 .ret)
def b232:DCode :=
 (.seq
 (.region [⟨some 2,.box,[.t 0],none,[]⟩,
 ⟨some 3,.box,[.t 1],none,[]⟩,
 ⟨some 4,.mov,[.c (.int .i64 0)],none,[]⟩,
 ⟨some 5,.mov,[.c (.int .i64 0)],none,[2]⟩] false)
 (.seq
 (.seq
 (.region [⟨some 7,(.load true 5),[.t 2],none,[]⟩,
 ⟨some 8,.call,[.f 110,.t 7],none,[0]⟩,
 ⟨some 6,.mov,[.t 8],none,[1,1,0,1]⟩] false)
 (.seq
 (.region [⟨some 9,.mov,[.t 6],none,[]⟩,
 ⟨some 10,(.bin .neq),[.t 9,.c (.int .i64 0)],none,[0]⟩] false)
 (.cond (.t 10)
 (.seq
 (.region [⟨some 11,.mov,[.t 6],none,[]⟩,
 ⟨some 4,.mov,[.c (.int .i64 0)],none,[]⟩,
 ⟨some 5,.mov,[.t 11],none,[0,1,0,1]⟩] false)
 .ret)
 .skip)))
 (.keep [3] [3] b232k0)))
def d232:DFn:=⟨2,16,[.tmp 4,.tmp 5],b232⟩
theorem body232:d232.body=b232:=rfl
theorem res232:d232.res=[.tmp 4,.tmp 5]:=rfl
theorem k232:chkFn Tryz.prog Tryz.f232 d232=true:=by kernel_rfl
def b161:DCode :=
 (.seq
 (.region [⟨some 2,.box,[.t 0],none,[]⟩,
 ⟨some 3,.box,[.t 1],none,[]⟩,
 ⟨some 4,(.alloc [(.imm (.int .i64 0)),(.imm (.int .i64 0)),(.imm (.int .i64 0)),(.imm (.int .i64 0)),(.imm (.int .i64 0)),(.imm (.int .i64 0)),(.imm (.slc 1 [])),(.imm (.int .i64 0)),(.imm (.int .i64 0))]),[],none,[]⟩,
 ⟨some 5,.mov,[.c (.int .i64 0)],none,[]⟩] false)
 (.seq
 (.region [⟨some 9,(.load true 5),[.t 2],none,[]⟩,
 ⟨some 10,(.load true 4),[.t 3],none,[]⟩,
 ⟨some 11,.call,[.f 232,.t 9,.t 10],none,[0,1]⟩,
 ⟨some 8,.mov,[.t 11],none,[2]⟩,
 ⟨some 12,(.ext 0),[.t 8],none,[3]⟩,
 ⟨some 13,(.ext 1),[.t 8],none,[3]⟩,
 ⟨some 6,.mov,[.t 12],none,[4,2,0,1,2,3,4]⟩,
 ⟨some 7,.mov,[.t 13],none,[5,6,0,1,2,3,4,5,6]⟩] false)
 (.seq
 (.region [⟨some 14,(.load true 5),[.t 2],none,[]⟩,
 ⟨some 15,(.build [(.imm (.int .i64 0)),(.imm (.int .i64 0)),(.imm (.int .i64 0)),(.imm (.int .i64 0)),(.imm (.int .i64 0))] [(0,5)]),[.t 14],none,[0]⟩,
 ⟨some 16,(.load true 4),[.t 3],none,[]⟩,
 ⟨some 17,(.build [(.imm (.int .i64 0)),(.imm (.int .i64 0)),(.imm (.int .i64 0)),(.imm (.int .i64 0)),(.imm (.int .i64 0)),(.imm (.int .i64 0)),(.imm (.slc 1 [])),(.imm (.int .i64 0)),(.imm (.int .i64 0))] [(0,5),(5,4)]),[.t 15,.t 16],none,[1,2]⟩,
 ⟨some 18,.mov,[.t 7],none,[]⟩,
 ⟨none,(.store 9),[.t 4,.t 17],none,[3,0,1,2,3]⟩,
 ⟨some 5,.mov,[.t 18],none,[4,5,0,1,2,3,4,5]⟩] false)
 .ret)))
def d161:DFn:=⟨2,19,[.cell 4 true 9,.tmp 5],b161⟩
theorem body161:d161.body=b161:=rfl
theorem res161:d161.res=[.cell 4 true 9,.tmp 5]:=rfl
theorem k161:chkFn Tryz.prog Tryz.f161 d161=true:=by kernel_rfl
def b235k0:DCode :=
 (.region [⟨some 28,(.bin .add),[.t 13,.c (.int .i64 1)],none,[]⟩,
 ⟨some 13,.mov,[.t 28],none,[0]⟩] false)
def b235k1:DCode :=
 (.seq
 (.block 1
 (.seq
 (.region [⟨some 15,(.iaddr 1),[.t 11,.t 13],none,[]⟩,
 ⟨some 16,(.load false 1),[.t 15],none,[0]⟩,
 ⟨some 7,.mov,[.t 16],none,[1,0,1]⟩] false)
 (.seq
 (.region [⟨some 17,.mov,[.t 5],none,[]⟩,
 ⟨some 18,(.faddr 5 true 4),[.t 2],none,[]⟩,
 ⟨some 19,(.faddr 1 false 1),[.t 18],none,[1]⟩,
 ⟨some 20,(.load false 1),[.t 19],none,[2]⟩,
 ⟨some 21,.mov,[.t 7],none,[]⟩,
 ⟨some 22,(.iaddr 1),[.t 20,.t 21],none,[3,4]⟩,
 ⟨some 23,(.load false 1),[.t 22],none,[5]⟩,
 ⟨some 24,(.bin .add),[.t 17,.t 23],none,[0,6]⟩,
 ⟨some 5,.mov,[.t 24],none,[7,0,1,2,3,4,5,6,7]⟩] false)
 (.seq
 (.region [⟨some 25,.mov,[.t 5],none,[]⟩,
 ⟨some 26,.call,[.f 236,.t 25],none,[0]⟩,
 ⟨some 27,(.un .not),[.t 26],none,[1]⟩] false)
 (.cond (.t 27)
 (.seq
 (.region [⟨some 4,.mov,[.c (.bool false)],none,[]⟩] false)
 .ret)
 .skip)))))
 (.keep [2,5,11,12,13] [2] b235k0))
def b235l0:DCode:=.keep [2,5,11,12,13] [2]
 (.seq
 (.region [⟨some 14,(.bin .lss),[.t 13,.t 12],none,[]⟩] false)
 (.seq
 (.cond (.t 14)
 .skip
 (.exit 0))
 (.keep [2,5,11,12,13] [2] b235k1)))
def b235k2:DCode :=
 (.seq
 (.region [⟨some 4,.mov,[.c (.bool true)],none,[]⟩] false)
 .ret)
def b235:DCode :=
 (.seq
 (.region [⟨some 2,.box,[.t 0],none,[]⟩,
 ⟨some 4,.mov,[.c (.bool false)],none,[]⟩] false)
 (.seq
 (.region [⟨some 8,(.faddr 5 true 4),[.t 2],none,[]⟩,
 ⟨some 9,(.faddr 0 false 1),[.t 8],none,[0]⟩,
 ⟨some 10,(.load false 1),[.t 9],none,[1]⟩,
 ⟨some 5,.mov,[.t 10],none,[2,0,1,2]⟩] false)
 (.seq
 (.seq
 (.region [⟨some 11,.movv,[.t 1],none,[]⟩,
 ⟨some 12,.len,[.t 11],none,[0]⟩,
 ⟨some 13,.mov,[.c (.int .i64 0)],none,[]⟩] false)
 (.block 0
 (.loop b235l0)))
 (.keep [] [] b235k2))))
def d235:DFn:=⟨2,29,[.tmp 4],b235⟩
theorem body235:d235.body=b235:=rfl
theorem res235:d235.res=[.tmp 4]:=rfl
theorem k235:chkFn Tryz.prog Tryz.f235 d235=true:=by kernel_rfl
def b176:DCode :=
 (.seq
 (.region [⟨some 2,.box,[.t 0],none,[]⟩,
 ⟨some 3,.box,[.t 1],none,[]⟩] false)
 (.ren 2 1002
 (.ren 3 1003
 (.seq
 (.region [⟨some 4,(.alloc [(.imm .nilf)]),[],none,[]⟩] false)
 (.ren 4 1004
 (.seq
 (.freeze [1002]
 (.region [⟨some 5,(.mkfn 241 0),[.t 2,.t 3,.t 4],none,[]⟩,
 ⟨none,(.store 1),[.t 4,.t 5],none,[0,0]⟩] false))
 (.region [⟨some 6,(.load false 1),[.t 4],none,[]⟩,
 ⟨some 7,(.callb [0,1002,1003,1004]),[.t 6,.c (.slc 1 [])],none,[0]⟩] false)))))))
def d176:DFn:=⟨2,8,[],b176⟩
theorem body176:d176.body=b176:=rfl
theorem res176:d176.res=[]:=rfl
theorem k176:chkFnB Tryz.prog Tryz.f176 d176 [0] [0]=true:=by kernel_rfl
def b241k0:DCode :=
 (.seq
 (.region [⟨some 28,.movv,[.t 0],none,[]⟩,
 ⟨some 29,(.callb [0]),[.f 178,.t 28],none,[0]⟩,
 ⟨some 30,.mov,[.t 6],none,[]⟩,
 ⟨some 31,(.bsl 1),[.t 30],none,[2]⟩,
 ⟨some 32,(.append 1 8 false),[.t 29,.t 31],none,[1,3,1]⟩,
 ⟨some 7,.movv,[.t 32],none,[4,4,0,1,2,3,4]⟩] false)
 (.seq
 (.freeze [1000]
 (.region [⟨some 33,(.load true 9),[.t 1],none,[]⟩,
 ⟨some 34,.movv,[.t 7],none,[]⟩,
 ⟨some 35,.call,[.f 235,.t 33,.t 34],none,[0,1]⟩,
 ⟨some 36,.mov,[.t 35],none,[2,2]⟩,
 ⟨some 37,(.load false 1),[.t 3],(some (36,true)),[3]⟩,
 ⟨some 38,.movv,[.t 7],(some (36,true)),[3]⟩,
 ⟨some 39,(.callb [0,1002,1003,1004]),[.t 37,.t 38],(some (36,true)),[4,5,3,3]⟩,
 ⟨some 40,(.un .not),[.t 39],(some (36,true)),[6,3]⟩,
 ⟨some 41,.pick,[.t 36,.t 40,.c (.bool false)],none,[3,7]⟩] false))
 (.cond (.t 41)
 (.seq
 (.region [⟨some 5,.mov,[.c (.bool false)],none,[]⟩] false)
 .ret)
 .skip)))
def b241k1:DCode :=
 (.region [⟨some 42,(.bin .add),[.t 22,.c (.int .i64 1)],none,[]⟩,
 ⟨some 22,.mov,[.t 42],none,[0]⟩] false)
def b241k2:DCode :=
 (.seq
 (.block 1
 (.seq
 (.region [⟨some 24,.mov,[.t 22],none,[]⟩,
 ⟨some 6,.mov,[.t 24],none,[0,0]⟩] false)
 (.seq
 (.seq
 (.region [⟨some 25,.movv,[.t 0],none,[]⟩,
 ⟨some 26,.mov,[.t 6],none,[]⟩,
 ⟨some 27,.call,[.f 234,.t 25,.t 26],none,[0,1]⟩] false)
 (.cond (.t 27)
 (.exit 1)
 .skip))
 (.keep [0,1,3,6,21,22] [0,1002,1003,1004] b241k0))))
 (.keep [0,1,3,21,22] [0,1002,1003,1004] b241k1))
def b241l0:DCode:=.keep [0,1,3,21,22] [0,1002,1003,1004]
 (.seq
 (.region [⟨some 23,(.bin .lss),[.t 22,.t 21],none,[]⟩] false)
 (.seq
 (.cond (.t 23)
 .skip
 (.exit 0))
 (.keep [0,1,3,21,22] [0,1002,1003,1004] b241k2)))
def b241k3:DCode :=
 (.seq
 (.region [⟨some 5,.mov,[.c (.bool true)],none,[]⟩] false)
 .ret)
def b241k4:DCode :=
 (.seq
 (.seq
 (.region [⟨some 18,(.faddr 5 true 4),[.t 1],none,[]⟩,
 ⟨some 19,(.faddr 1 false 1),[.t 18],none,[0]⟩,
 ⟨some 20,(.load false 1),[.t 19],none,[1]⟩,
 ⟨some 21,.len,[.t 20],none,[2]⟩,
 ⟨some 22,.mov,[.c (.int .i64 0)],none,[]⟩] false)
 (.block 0
 (.loop b241l0)))
 (.keep [] [0,1002,1003,1004] b241k3))
def b241:DCode :=
 (.seq
 (.region [⟨some 5,.mov,[.c (.bool false)],none,[]⟩] false)
 (.seq
 (.seq
 (.region [⟨some 8,.movv,[.t 0],none,[]⟩,
 ⟨some 9,.len,[.t 8],none,[0]⟩,
 ⟨some 10,(.faddr 5 true 4),[.t 1],none,[]⟩,
 ⟨some 11,(.faddr 1 false 1),[.t 10],none,[2]⟩,
 ⟨some 12,(.load false 1),[.t 11],none,[3]⟩,
 ⟨some 13,.len,[.t 12],none,[4]⟩,
 ⟨some 14,(.bin .eql),[.t 9,.t 13],none,[1,5]⟩] false)
 (.cond (.t 14)
 (.seq
 (.region [⟨some 15,(.load false 1),[.t 2],none,[]⟩,
 ⟨some 16,.movv,[.t 0],none,[]⟩,
 ⟨some 17,.yield,[.t 15,.t 16],none,[0,1]⟩,
 ⟨some 5,.mov,[.t 17],none,[2,2,0,1,2]⟩] false)
 .ret)
 .skip))
 (.keep [0,1,3] [0,1002,1003,1004] b241k4)))
def d241:DFn:=⟨4,43,[.tmp 5],b241⟩
theorem body241:d241.body=b241:=rfl
theorem res241:d241.res=[.tmp 5]:=rfl
theorem k241:chkFnB Tryz.prog Tryz.f241 d241 [0,1002,1003,1004] [0,1002,1003,1004]=true:=by kernel_rfl
def b162a0:DCode :=
 (.region [⟨some 4,.movv,[.t 7],none,[]⟩] false)
def b162r0:DCode :=
 (.block 1
 (.region [⟨some 8,(.load false 1),[.t 3],none,[]⟩,
 ⟨some 9,.movv,[.t 4],none,[]⟩,
 ⟨some 10,.call,[.f 178,.t 9],none,[1]⟩,
 ⟨some 11,(.bsl 1),[.t 10],none,[2]⟩,
 ⟨some 12,(.append 1 24 false),[.t 8,.t 11],none,[0,3,2]⟩,
 ⟨none,(.store 1),[.t 3,.t 12],none,[4,4,0,1,2,3,4]⟩] true))
def b162k0:DCode :=
 (.seq
 (.region [⟨some 13,(.load false 1),[.t 3],none,[]⟩,
 ⟨some 2,.movv,[.t 13],none,[0,0]⟩] false)
 .ret)
def b162:DCode :=
 (.seq
 (.region [⟨some 1,.box,[.t 0],none,[]⟩,
 ⟨some 2,.mov,[.c (.slc 1 [])],none,[]⟩] false)
 (.seq
 (.region [⟨some 3,(.alloc [(.cap0 1 [])]),[],none,[]⟩] false)
 (.mktok 3 0 1003 1
 (.seq
 (.seq
 (.region [⟨some 5,(.load true 9),[.t 1],none,[]⟩,
 ⟨some 6,(.mkfn 176 1),[.t 5],none,[0]⟩] false)
 (.block 0
 (.rangeF (.t 6) [7] [3] [3] [] [3,12,1003] b162a0 b162r0)))
 (.keep [3] [3,12,1003] b162k0)))))
def d162:DFn:=⟨1,14,[.tmp 2],b162⟩
theorem body162:d162.body=b162:=rfl
theorem res162:d162.res=[.tmp 2]:=rfl
theorem k162:chkFn Tryz.prog Tryz.f162 d162=true:=by kernel_rfl
def b72k0:DCode :=
 (.seq
 (.region [⟨some 18,(.load true 9),[.t 6],none,[]⟩,
 ⟨some 19,.call,[.f 162,.t 18],none,[0]⟩,
 ⟨some 8,.movv,[.t 19],none,[1,1,0,1]⟩] false)
 (.seq
 (.region [⟨some 20,.movv,[.t 8],none,[]⟩,
 ⟨some 21,.movv,[.t 8],none,[]⟩,
 ⟨some 22,.len,[.t 21],none,[1]⟩,
 ⟨some 23,(.bin .gtr),[.t 22,.c (.int .i64 0)],none,[2]⟩,
 ⟨some 24,.call,[.f 163,.t 23,.c (.int .i64 12)],none,[3]⟩,
 ⟨some 4,.movv,[.t 20],none,[0,4,0]⟩,
 ⟨some 5,.mov,[.t 24],none,[4,5,0,1,2,3,4,5]⟩] false)
 .ret))
def b72:DCode :=
 (.seq
 (.region [⟨some 2,.box,[.t 0],none,[]⟩,
 ⟨some 3,.box,[.t 1],none,[]⟩,
 ⟨some 4,.mov,[.c (.slc 1 [])],none,[]⟩,
 ⟨some 5,.mov,[.c (.int .i64 0)],none,[2]⟩] false)
 (.seq
 (.region [⟨some 10,(.load true 5),[.t 2],none,[]⟩,
 ⟨some 11,(.load true 4),[.t 3],none,[]⟩,
 ⟨some 12,.call,[.f 161,.t 10,.t 11],none,[0,1]⟩,
 ⟨some 9,.mov,[.t 12],none,[2]⟩,
 ⟨some 13,(.ext 0),[.t 9],none,[3]⟩,
 ⟨some 14,(.ext 1),[.t 9],none,[3]⟩,
 ⟨some 6,(.alloc [(.imm (.int .i64 0)),(.imm (.int .i64 0)),(.imm (.int .i64 0)),(.imm (.int .i64 0)),(.imm (.int .i64 0)),(.imm (.int .i64 0)),(.imm (.slc 1 [])),(.imm (.int .i64 0)),(.imm (.int .i64 0))]),[],none,[]⟩,
 ⟨none,(.store 9),[.t 6,.t 13],none,[6,4,2,0,1,2,3,4,6]⟩,
 ⟨some 7,.mov,[.t 14],none,[5,7,0,1,2,3,4,5,6,7]⟩] false)
 (.seq
 (.seq
 (.region [⟨some 15,.mov,[.t 7],none,[]⟩,
 ⟨some 16,(.bin .neq),[.t 15,.c (.int .i64 0)],none,[0]⟩] false)
 (.cond (.t 16)
 (.seq
 (.region [⟨some 17,.mov,[.t 7],none,[]⟩,
 ⟨some 4,.mov,[.c (.slc 1 [])],none,[]⟩,
 ⟨some 5,.mov,[.t 17],none,[0,1,0,1]⟩] false)
 .ret)
 .skip))
 (.keep [6] [6] b72k0))))
def d72:DFn:=⟨2,25,[.tmp 4,.tmp 5],b72⟩
theorem body72:d72.body=b72:=rfl
theorem res72:d72.res=[.tmp 4,.tmp 5]:=rfl
theorem k72:chkFn Tryz.prog Tryz.f72 d72=true:=by kernel_rfl
def b167k0:DCode :=
 (.region [⟨some 46,.mov,[.t 6],none,[]⟩,
 ⟨some 47,.mov,[.t 5],none,[]⟩,
 ⟨some 48,(.bsl 1),[.t 47],none,[1]⟩,
 ⟨some 49,(.append 1 8 false),[.t 46,.t 48],none,[0,2]⟩,
 ⟨some 6,.mov,[.t 49],none,[3,3,0,1,2,3]⟩] false)
def b167k1:DCode :=
 (.region [⟨some 50,(.bin .add),[.t 15,.c (.int .i64 1)],none,[]⟩,
 ⟨some 15,.mov,[.t 50],none,[0]⟩] false)
def b167k2:DCode :=
 (.seq
 (.block 1
 (.seq
 (.region [⟨some 17,.mov,[.t 15],none,[]⟩,
 ⟨some 7,.mov,[.t 17],none,[0,0]⟩] false)
 (.seq
 (.seq
 (.region [⟨some 18,.mov,[.t 7],none,[]⟩,
 ⟨some 19,(.faddr 5 true 4),[.t 2],none,[]⟩,
 ⟨some 20,(.faddr 2 false 1),[.t 19],none,[1]⟩,
 ⟨some 21,(.load false 1),[.t 20],none,[2]⟩,
 ⟨some 22,(.bin .quo),[.t 18,.t 21],none,[0,3]⟩,
 ⟨some 8,.mov,[.t 22],none,[4,0,1,2,3,4]⟩] false)
 (.seq
 (.region [⟨some 23,.mov,[.t 7],none,[]⟩,
 ⟨some 24,(.faddr 5 true 4),[.t 2],none,[]⟩,
 ⟨some 25,(.faddr 2 false 1),[.t 24],none,[1]⟩,
 ⟨some 26,(.load false 1),[.t 25],none,[2]⟩,
 ⟨some 27,(.bin .rem),[.t 23,.t 26],none,[0,3]⟩,
 ⟨some 28,(.bin .eql),[.t 27,.c (.int .i64 0)],none,[4]⟩,
 ⟨some 29,.mov,[.t 28],none,[5]⟩,
 ⟨some 30,.mov,[.t 8],(some (29,true)),[6]⟩,
 ⟨some 31,.movv,[.t 1],(some (29,true)),[6]⟩,
 ⟨some 32,.len,[.t 31],(some (29,true)),[8,6]⟩,
 ⟨some 33,(.bin .lss),[.t 30,.t 32],(some (29,true)),[7,9,6]⟩,
 ⟨some 34,.pick,[.t 29,.t 33,.c (.bool false)],none,[6,10]⟩] false)
 (.cond (.t 34)
 (.region [⟨some 35,.mov,[.t 5],none,[]⟩,
 ⟨some 36,(.faddr 5 true 4),[.t 2],none,[]⟩,
 ⟨some 37,(.faddr 1 false 1),[.t 36],none,[1]⟩,
 ⟨some 38,(.load false 1),[.t 37],none,[2]⟩,
 ⟨some 39,.movv,[.t 1],none,[]⟩,
 ⟨some 40,.mov,[.t 8],none,[]⟩,
 ⟨some 41,(.iaddr 1),[.t 39,.t 40],none,[4,5]⟩,
 ⟨some 42,(.load false 1),[.t 41],none,[6]⟩,
 ⟨some 43,(.iaddr 1),[.t 38,.t 42],none,[3,7]⟩,
 ⟨some 44,(.load false 1),[.t 43],none,[8]⟩,
 ⟨some 45,(.bin .add),[.t 35,.t 44],none,[0,9]⟩,
 ⟨some 5,.mov,[.t 45],none,[10,0,1,2,3,4,5,6,7,8,9,10]⟩] true)
 .skip)))
 (.keep [1,2,5,6,14,15] [2,6,49] b167k0))))
 (.keep [1,2,5,6,14,15] [2,6,49] b167k1))
def b167l0:DCode:=.keep [1,2,5,6,14,15] [2,6,49]
 (.seq
 (.region [⟨some 16,(.bin .lss),[.t 15,.t 14],none,[]⟩] false)
 (.seq
 (.cond (.t 16)
 .skip
 (.exit 0))
 (.keep [1,2,5,6,14,15] [2,6,49] b167k2)))
def b167k3:DCode :=
 (.seq
 (.region [⟨some 51,.movv,[.t 6],none,[]⟩,
 ⟨some 4,.movv,[.t 51],none,[0,0]⟩] false)
 .ret)
def b167:DCode :=
 (.seq
 (.region [⟨some 2,.box,[.t 0],none,[]⟩,
 ⟨some 4,.mov,[.c (.slc 1 [])],none,[]⟩] false)
 (.seq
 (.region [⟨some 9,(.faddr 5 true 4),[.t 2],none,[]⟩,
 ⟨some 10,(.faddr 0 false 1),[.t 9],none,[0]⟩,
 ⟨some 11,(.load false 1),[.t 10],none,[1]⟩,
 ⟨some 5,.mov,[.t 11],none,[2,0,1,2]⟩] false)
 (.seq
 (.region [⟨some 6,(.ntok 1),[.c (.slc 1 [])],none,[]⟩] false)
 (.seq
 (.seq
 (.region [⟨some 12,(.faddr 5 true 4),[.t 2],none,[]⟩,
 ⟨some 13,(.faddr 3 false 1),[.t 12],none,[0]⟩,
 ⟨some 14,(.load false 1),[.t 13],none,[1]⟩,
 ⟨some 15,.mov,[.c (.int .i64 0)],none,[]⟩] false)
 (.block 0
 (.loop b167l0)))
 (.keep [6] [6,49] b167k3)))))
def d167:DFn:=⟨2,52,[.tmp 4],b167⟩
theorem body167:d167.body=b167:=rfl
theorem res167:d167.res=[.tmp 4]:=rfl
theorem k167:chkFn Tryz.prog Tryz.f167 d167=true:=by kernel_rfl
def b166k0:DCode :=
 (.region [⟨some 42,(.bin .add),[.t 17,.c (.int .i64 1)],none,[]⟩,
 ⟨some 17,.mov,[.t 42],none,[0]⟩] false)
def b166k1:DCode :=
 (.seq
 (.block 1
 (.seq
 (.region [⟨some 19,.mov,[.t 17],none,[]⟩,
 ⟨some 20,(.iaddr 1),[.t 15,.t 17],none,[]⟩,
 ⟨some 21,(.load false 1),[.t 20],none,[1]⟩,
 ⟨some 5,.mov,[.t 19],none,[0,0,1,2]⟩,
 ⟨some 6,.mov,[.t 21],none,[2,3,0,1,2,3]⟩] false)
 (.seq
 (.region [⟨some 22,.mov,[.t 6],none,[]⟩,
 ⟨some 23,(.faddr 5 true 4),[.t 2],none,[]⟩,
 ⟨some 24,(.faddr 1 false 1),[.t 23],none,[1]⟩,
 ⟨some 25,(.load false 1),[.t 24],none,[2]⟩,
 ⟨some 26,.len,[.t 25],none,[3]⟩,
 ⟨some 27,(.bin .sub),[.t 26,.c (.int .i64 1)],none,[4]⟩,
 ⟨some 28,.call,[.f 206,.t 22,.c (.int .i64 0),.t 27],none,[0,5]⟩,
 ⟨some 29,.call,[.f 163,.t 28,.c (.int .i64 6)],none,[6,6]⟩,
 ⟨some 30,.movv,[.t 1],none,[]⟩,
 ⟨some 31,.mov,[.t 5],none,[]⟩,
 ⟨some 32,(.slice 1 false true),[.t 30,.t 31],none,[8,9]⟩,
 ⟨some 33,.mov,[.t 6],none,[]⟩,
 ⟨some 34,.call,[.f 234,.t 32,.t 33],none,[10,11,7]⟩,
 ⟨some 35,(.un .not),[.t 34],none,[12]⟩,
 ⟨some 36,.call,[.f 163,.t 35,.c (.int .i64 23)],none,[13,12]⟩,
 ⟨some 37,(.bsl 1),[.t 29,.t 36],none,[7,14]⟩,
 ⟨some 38,.call,[.f 158,.t 37],none,[15,14]⟩,
 ⟨some 7,.mov,[.t 38],none,[16,16,0,1,2,3,4,5,6,7,8,9,10,11,12,13,14,15,16]⟩] true)
 (.seq
 (.region [⟨some 39,.mov,[.t 7],none,[]⟩,
 ⟨some 40,(.bin .neq),[.t 39,.c (.int .i64 0)],none,[0]⟩] false)
 (.cond (.t 40)
 (.seq
 (.region [⟨some 41,.mov,[.t 7],none,[]⟩,
 ⟨some 4,.mov,[.t 41],none,[0,0]⟩] false)
 .ret)
 .skip)))))
 (.keep [1,2,15,16,17] [2] b166k0))
def b166l0:DCode:=.keep [1,2,15,16,17] [2]
 (.seq
 (.region [⟨some 18,(.bin .lss),[.t 17,.t 16],none,[]⟩] false)
 (.seq
 (.cond (.t 18)
 .skip
 (.exit 0))
 (.keep [1,2,15,16,17] [2] b166k1)))
def b166k2:DCode :=
 (.seq
 (.region [⟨some 43,(.load true 9),[.t 2],none,[]⟩,
 ⟨some 44,.movv,[.t 1],none,[]⟩,
 ⟨some 45,.call,[.f 235,.t 43,.t 44],none,[0,1]⟩,
 ⟨some 46,.call,[.f 163,.t 45,.c (.int .i64 24)],none,[2,2]⟩,
 ⟨some 4,.mov,[.t 46],none,[3,3,0,1,2,3]⟩] false)
 .ret)
def b166k3:DCode :=
 (.seq
 (.seq
 (.region [⟨some 15,.movv,[.t 1],none,[]⟩,
 ⟨some 16,.len,[.t 15],none,[0]⟩,
 ⟨some 17,.mov,[.c (.int .i64 0)],none,[]⟩] false)
 (.block 0
 (.loop b166l0)))
 (.keep [1,2] [2] b166k2))
def b166:DCode :=
 (.seq
 (.region [⟨some 2,.box,[.t 0],none,[]⟩,
 ⟨some 4,.mov,[.c (.int .i64 0)],none,[]⟩] false)
 (.seq
 (.seq
 (.region [⟨some 8,.movv,[.t 1],none,[]⟩,
 ⟨some 9,.len,[.t 8],none,[0]⟩,
 ⟨some 10,(.faddr 5 true 4),[.t 2],none,[]⟩,
 ⟨some 11,(.faddr 1 false 1),[.t 10],none,[2]⟩,
 ⟨some 12,(.load false 1),[.t 11],none,[3]⟩,
 ⟨some 13,.len,[.t 12],none,[4]⟩,
 ⟨some 14,(.bin .neq),[.t 9,.t 13],none,[1,5]⟩] false)
 (.cond (.t 14)
 (.seq
 (.region [⟨some 4,.mov,[.c (.int .i64 10)],none,[]⟩] false)
 .ret)
 .skip))
 (.keep [1,2] [2] b166k3)))
def d166:DFn:=⟨2,47,[.tmp 4],b166⟩
theorem body166:d166.body=b166:=rfl
theorem res166:d166.res=[.tmp 4]:=rfl
theorem k166:chkFn Tryz.prog Tryz.f166 d166=true:=by kernel_rfl
def b78k0:DCode :=
 (.seq
 (.region [⟨some 24,(.load true 9),[.t 8],none,[]⟩,
 ⟨some 25,.movv,[.t 2],none,[]⟩,
 ⟨some 26,.call,[.f 167,.t 24,.t 25],none,[0,1]⟩,
 ⟨some 6,.movv,[.t 26],none,[2,2,0,1,2]⟩,
 ⟨some 7,.mov,[.c (.int .i64 0)],none,[3,0,1,2,3]⟩] false)
 .ret)
def b78k1:DCode :=
 (.seq
 (.seq
 (.region [⟨some 21,.mov,[.t 9],none,[]⟩,
 ⟨some 22,(.bin .neq),[.t 21,.c (.int .i64 0)],none,[0]⟩] false)
 (.cond (.t 22)
 (.seq
 (.region [⟨some 23,.mov,[.t 9],none,[]⟩,
 ⟨some 6,.mov,[.c (.slc 1 [])],none,[]⟩,
 ⟨some 7,.mov,[.t 23],none,[0,1,0,1]⟩] false)
 .ret)
 .skip))
 (.keep [2,8] [8] b78k0))
def b78:DCode :=
 (.seq
 (.region [⟨some 3,.box,[.t 0],none,[]⟩,
 ⟨some 4,.box,[.t 1],none,[]⟩,
 ⟨some 6,.mov,[.c (.slc 1 [])],none,[]⟩,
 ⟨some 7,.mov,[.c (.int .i64 0)],none,[2]⟩] false)
 (.seq
 (.region [⟨some 11,(.load true 5),[.t 3],none,[]⟩,
 ⟨some 12,(.load true 4),[.t 4],none,[]⟩,
 ⟨some 13,.call,[.f 161,.t 11,.t 12],none,[0,1]⟩,
 ⟨some 10,.mov,[.t 13],none,[2]⟩,
 ⟨some 14,(.ext 0),[.t 10],none,[3]⟩,
 ⟨some 15,(.ext 1),[.t 10],none,[3]⟩,
 ⟨some 8,(.alloc [(.imm (.int .i64 0)),(.imm (.int .i64 0)),(.imm (.int .i64 0)),(.imm (.int .i64 0)),(.imm (.int .i64 0)),(.imm (.int .i64 0)),(.imm (.slc 1 [])),(.imm (.int .i64 0)),(.imm (.int .i64 0))]),[],none,[]⟩,
 ⟨none,(.store 9),[.t 8,.t 14],none,[6,4,2,0,1,2,3,4,6]⟩,
 ⟨some 9,.mov,[.t 15],none,[5,7,0,1,2,3,4,5,6,7]⟩] false)
 (.seq
 (.seq
 (.region [⟨some 16,.mov,[.t 9],none,[]⟩,
 ⟨some 17,(.bin .eql),[.t 16,.c (.int .i64 0)],none,[0]⟩] false)
 (.cond (.t 17)
 (.region [⟨some 18,(.load true 9),[.t 8],none,[]⟩,
 ⟨some 19,.movv,[.t 2],none,[]⟩,
 ⟨some 20,.call,[.f 166,.t 18,.t 19],none,[0,1]⟩,
 ⟨some 9,.mov,[.t 20],none,[2,2,0,1,2]⟩] false)
 .skip))
 (.keep [2,8,9] [8] b78k1))))
def d78:DFn:=⟨3,27,[.tmp 6,.tmp 7],b78⟩
theorem body78:d78.body=b78:=rfl
theorem res78:d78.res=[.tmp 6,.tmp 7]:=rfl
theorem k78:chkFn Tryz.prog Tryz.f78 d78=true:=by kernel_rfl
def b177a0:DCode :=
 (.region [⟨some 10,(.alloc [(.imm (.int .i64 0)),(.imm (.int .i64 0))]),[],none,[]⟩,
 ⟨none,(.store 2),[.t 10,.t 16],none,[0,0]⟩] false)
def b177r0:DCode :=
 (.block 1
 (.region [⟨some 17,(.load false 1),[.t 9],none,[]⟩,
 ⟨some 18,(.faddr 0 false 1),[.t 10],none,[]⟩,
 ⟨some 19,(.load false 1),[.t 18],none,[1]⟩,
 ⟨some 20,(.bsl 1),[.t 19],none,[2]⟩,
 ⟨some 21,(.append 1 8 false),[.t 17,.t 20],none,[0,3]⟩,
 ⟨none,(.store 1),[.t 9,.t 21],none,[4,4,0,1,2,3,4]⟩] false))
def b177k0:DCode :=
 (.seq
 (.region [⟨some 22,(.load false 1),[.t 9],none,[]⟩,
 ⟨some 23,.call,[.f 242,.t 22],none,[0]⟩,
 ⟨some 8,.mov,[.t 23],none,[1,1,0,1]⟩] false)
 .ret)
def b177:DCode :=
 (.seq
 (.region [⟨some 4,.box,[.t 0],none,[]⟩,
 ⟨some 5,.box,[.t 1],none,[]⟩,
 ⟨some 8,.mov,[.c (.int .i64 0)],none,[]⟩] false)
 (.seq
 (.region [⟨some 9,(.alloc [(.cap0 1 [])]),[],none,[]⟩] false)
 (.mktok 9 0 1009 1
 (.seq
 (.seq
 (.region [⟨some 11,(.load true 5),[.t 4],none,[]⟩,
 ⟨some 12,(.load true 2),[.t 5],none,[]⟩,
 ⟨some 13,.movv,[.t 2],none,[]⟩,
 ⟨some 14,.mov,[.t 3],none,[]⟩,
 ⟨some 15,.call,[.f 181,.t 11,.t 12,.t 13,.t 14],none,[0,1,2,3]⟩] false)
 (.block 0
 (.rangeF (.t 15) [16] [9] [9] [] [9,21,1009] b177a0 b177r0)))
 (.keep [9] [9,21,1009] b177k0)))))
def d177:DFn:=⟨4,24,[.tmp 8],b177⟩
theorem body177:d177.body=b177:=rfl
theorem res177:d177.res=[.tmp 8]:=rfl
theorem k177:chkFn Tryz.prog Tryz.f177 d177=true:=by kernel_rfl
def b82k0:DCode :=
 (.region [⟨some 87,(.bin .add),[.t 61,.c (.int .i64 1)],none,[]⟩,
 ⟨some 61,.mov,[.t 87],none,[0]⟩] false)
def b82k1:DCode :=
 (.seq
 (.block 5
 (.seq
 (.region [⟨some 63,(.index 2 1 false),[.t 60,.t 61],none,[]⟩,
 ⟨some 16,.mov,[.t 63],none,[0,0]⟩] false)
 (.seq
 (.region [⟨some 64,(.faddr 0 true 5),[.t 8],none,[]⟩,
 ⟨some 65,(.load true 5),[.t 64],none,[0]⟩,
 ⟨some 66,(.load true 2),[.t 14],none,[]⟩,
 ⟨some 67,.movv,[.t 12],none,[]⟩,
 ⟨some 68,.mov,[.t 16],none,[]⟩,
 ⟨some 69,.call,[.f 177,.t 65,.t 66,.t 67,.t 68],none,[1,2,3,4]⟩,
 ⟨some 17,.mov,[.t 69],none,[5,5,0,1,2,3,4,5]⟩] false)
 (.seq
 (.region [⟨some 70,(.load false 1),[.t 10],none,[]⟩,
 ⟨some 71,(.pnil false),[.t 70,.c .nilp],none,[0]⟩,
 ⟨some 72,.mov,[.t 71],none,[1]⟩,
 ⟨some 73,.mov,[.t 17],(some (72,false)),[2]⟩,
 ⟨some 74,(.load false 1),[.t 10],(some (72,false)),[2]⟩,
 ⟨some 75,.nilck,[.t 74],(some (72,false)),[4,2]⟩,
 ⟨some 76,(.faddr 4 false 1),[.t 75],(some (72,false)),[5,2]⟩,
 ⟨some 77,(.load false 1),[.t 76],(some (72,false)),[6,2]⟩,
 ⟨some 78,(.bin .gtr),[.t 73,.t 77],(some (72,false)),[3,7,2]⟩,
 ⟨some 79,.pick,[.t 72,.c (.bool true),.t 78],none,[2,8]⟩] false)
 (.cond (.t 79)
 (.settle [86]
 (.region [⟨some 80,.movv,[.t 11],none,[]⟩,
 ⟨some 81,.call,[.f 178,.t 80],none,[0]⟩,
 ⟨some 82,(.load true 2),[.t 14],none,[]⟩,
 ⟨some 83,.mov,[.t 16],none,[]⟩,
 ⟨some 84,.mov,[.t 17],none,[]⟩,
 ⟨some 85,(.build [(.imm (.slc 1 [])),(.imm (.int .i64 0)),(.imm (.int .i64 0)),(.imm (.int .i64 0)),(.imm (.int .i64 0))] [(0,1),(1,2),(3,1),(4,1)]),[.t 81,.t 82,.t 83,.t 84],none,[1,2,3,4]⟩,
 ⟨some 86,.box,[.t 85],none,[5]⟩,
 ⟨none,(.store 1),[.t 10,.t 86],none,[6,1,0,1,2,3,4,5,6]⟩] true))
 .skip)))))
 (.keep [3,8,10,11,12,14,48,49,50,60,61] [3,5,6,8,10,14] b82k0))
def b82l0:DCode:=.keep [3,8,10,11,12,14,48,49,50,60,61] [3,5,6,8,10,14]
 (.seq
 (.region [⟨some 62,(.bin .lss),[.t 61,.c (.int .i64 2)],none,[]⟩] false)
 (.seq
 (.cond (.t 62)
 .skip
 (.exit 4))
 (.keep [3,8,10,11,12,14,48,49,50,60,61] [3,5,6,8,10,14] b82k1)))
def b82k2:DCode :=
 (.region [⟨some 88,(.bin .add),[.t 50,.c (.int .i64 1)],none,[]⟩,
 ⟨some 50,.mov,[.t 88],none,[0]⟩] false)
def b82k3:DCode :=
 (.seq
 (.block 3
 (.seq
 (.region [⟨some 52,(.iaddr 2),[.t 48,.t 50],none,[]⟩,
 ⟨some 53,(.load true 2),[.t 52],none,[0]⟩,
 ⟨some 14,(.alloc [(.imm (.int .i64 0)),(.imm (.int .i64 0))]),[],none,[]⟩,
 ⟨none,(.store 2),[.t 14,.t 53],none,[2,1,0,1,2]⟩] false)
 (.seq
 (.region [⟨some 54,(.faddr 2 true 2),[.t 3],none,[]⟩,
 ⟨some 55,(.faddr 0 false 1),[.t 54],none,[0]⟩,
 ⟨some 56,(.load false 1),[.t 55],none,[1]⟩,
 ⟨some 57,(.faddr 2 true 2),[.t 3],none,[]⟩,
 ⟨some 58,(.faddr 1 false 1),[.t 57],none,[3]⟩,
 ⟨some 59,(.load false 1),[.t 58],none,[4]⟩,
 ⟨some 60,(.build [(.imm (.int .i64 0)),(.imm (.int .i64 0))] [(0,1),(1,1)]),[.t 56,.t 59],none,[2,5]⟩,
 ⟨some 61,.mov,[.c (.int .i64 0)],none,[]⟩] false)
 (.block 4
 (.loop b82l0)))))
 (.keep [3,8,10,11,12,48,49,50] [3,5,6,8,10] b82k2))
def b82l1:DCode:=.keep [3,8,10,11,12,48,49,50] [3,5,6,8,10]
 (.seq
 (.region [⟨some 51,(.bin .lss),[.t 50,.t 49],none,[]⟩] false)
 (.seq
 (.cond (.t 51)
 .skip
 (.exit 2))
 (.keep [3,8,10,11,12,48,49,50] [3,5,6,8,10] b82k3)))
def b82a2:DCode :=
 (.region [⟨some 11,.movv,[.t 44],none,[]⟩] false)
def b82r2:DCode :=
 (.block 1
 (.seq
 (.region [⟨some 45,(.load true 9),[.t 8],none,[]⟩,
 ⟨some 46,.movv,[.t 11],none,[]⟩,
 ⟨some 47,.call,[.f 167,.t 45,.t 46],none,[0,1]⟩,
 ⟨some 12,.movv,[.t 47],none,[2,2,0,1,2]⟩] false)
 (.seq
 (.region [⟨some 48,(.load false 1),[.t 5],none,[]⟩,
 ⟨some 49,.len,[.t 48],none,[0]⟩,
 ⟨some 50,.mov,[.c (.int .i64 0)],none,[]⟩] false)
 (.block 2
 (.loop b82l1)))))
def b82k4:DCode :=
 (.seq
 (.region [⟨some 92,(.load false 1),[.t 10],none,[]⟩,
 ⟨some 93,.nilck,[.t 92],none,[0]⟩,
 ⟨some 94,(.load true 5),[.t 93],none,[1]⟩,
 ⟨none,(.store 5),[.t 6,.t 94],none,[2,0,1,2]⟩,
 ⟨some 7,.mov,[.c (.int .i64 0)],none,[3,0,1,2,3]⟩] false)
 .ret)
def b82k5:DCode :=
 (.seq
 (.seq
 (.region [⟨some 89,(.load false 1),[.t 10],none,[]⟩,
 ⟨some 90,(.pnil false),[.t 89,.c .nilp],none,[0]⟩] false)
 (.cond (.t 90)
 (.seq
 (.region [⟨some 91,(.build [(.imm (.slc 1 [])),(.imm (.int .i64 0)),(.imm (.int .i64 0)),(.imm (.int .i64 0)),(.imm (.int .i64 0))] []),[],none,[]⟩,
 ⟨none,(.store 5),[.t 6,.t 91],none,[0,0]⟩,
 ⟨some 7,.mov,[.c (.int .i64 12)],none,[1,0,1]⟩] false)
 .ret)
 .skip))
 (.keep [6,10] [6,10] b82k4))
def b82k6:DCode :=
 (.seq
 (.region [⟨some 10,(.alloc [(.imm .nilp)]),[],none,[]⟩] false)
 (.seq
 (.seq
 (.region [⟨some 42,(.load true 9),[.t 8],none,[]⟩,
 ⟨some 43,(.mkfn 176 1),[.t 42],none,[0]⟩] false)
 (.block 0
 (.rangeF (.t 43) [44] [3,5,6,8,10] [3,5,6,8,10] [] [3,5,6,8,10] b82a2 b82r2)))
 (.keep [6,10] [6,10] b82k5)))
def b82k7:DCode :=
 (.seq
 (.seq
 (.region [⟨some 39,(.load false 1),[.t 5],none,[]⟩,
 ⟨some 40,.call,[.f 173,.t 39,.f 174],none,[0]⟩] false)
 (.cond (.t 40)
 (.seq
 (.region [⟨some 41,(.build [(.imm (.slc 1 [])),(.imm (.int .i64 0)),(.imm (.int .i64 0)),(.imm (.int .i64 0)),(.imm (.int .i64 0))] []),[],none,[]⟩,
 ⟨none,(.store 5),[.t 6,.t 41],none,[0,0]⟩,
 ⟨some 7,.mov,[.c (.int .i64 2)],none,[1,0,1]⟩] false)
 .ret)
 .skip))
 (.keep [3,5,6,8] [3,5,6,8] b82k6))
def b82:DCode :=
 (.seq
 (.region [⟨some 3,.box,[.t 0],none,[]⟩,
 ⟨some 4,.box,[.t 1],none,[]⟩,
 ⟨some 5,.box,[.t 2],none,[]⟩,
 ⟨some 6,(.alloc [(.imm (.slc 1 [])),(.imm (.int .i64 0)),(.imm (.int .i64 0)),(.imm (.int .i64 0)),(.imm (.int .i64 0))]),[],none,[]⟩,
 ⟨some 7,.mov,[.c (.int .i64 0)],none,[]⟩] false)
 (.seq
 (.region [⟨some 19,(.load true 5),[.t 3],none,[]⟩,
 ⟨some 20,(.load true 4),[.t 4],none,[]⟩,
 ⟨some 21,.call,[.f 161,.t 19,.t 20],none,[0,1]⟩,
 ⟨some 18,.mov,[.t 21],none,[2]⟩,
 ⟨some 22,(.ext 0),[.t 18],none,[3]⟩,
 ⟨some 23,(.ext 1),[.t 18],none,[3]⟩,
 ⟨some 8,(.alloc [(.imm (.int .i64 0)),(.imm (.int .i64 0)),(.imm (.int .i64 0)),(.imm (.int .i64 0)),(.imm (.int .i64 0)),(.imm (.int .i64 0)),(.imm (.slc 1 [])),(.imm (.int .i64 0)),(.imm (.int .i64 0))]),[],none,[]⟩,
 ⟨none,(.store 9),[.t 8,.t 22],none,[6,4,2,0,1,2,3,4,6]⟩,
 ⟨some 9,.mov,[.t 23],none,[5,7,0,1,2,3,4,5,6,7]⟩] false)
 (.seq
 (.seq
 (.region [⟨some 24,.mov,[.t 9],none,[]⟩,
 ⟨some 25,(.load false 1),[.t 5],none,[]⟩,
 ⟨some 26,.len,[.t 25],none,[1]⟩,
 ⟨some 27,(.bin .gtr),[.t 26,.c (.int .i64 0)],none,[2]⟩,
 ⟨some 28,.call,[.f 163,.t 27,.c (.int .i64 10)],none,[3]⟩,
 ⟨some 29,(.load false 1),[.t 5],none,[]⟩,
 ⟨some 30,.len,[.t 29],none,[5]⟩,
 ⟨some 31,(.bin .leq),[.t 30,.c (.int .i64 40)],none,[6]⟩,
 ⟨some 32,.call,[.f 163,.t 31,.c (.int .i64 8)],none,[7,4]⟩,
 ⟨some 33,(.bsl 1),[.t 24,.t 28,.t 32],none,[0,4,8]⟩,
 ⟨some 34,.call,[.f 158,.t 33],none,[9,8]⟩,
 ⟨some 9,.mov,[.t 34],none,[10,10,0,1,2,3,4,5,6,7,8,9,10]⟩] true)
 (.seq
 (.region [⟨some 35,.mov,[.t 9],none,[]⟩,
 ⟨some 36,(.bin .neq),[.t 35,.c (.int .i64 0)],none,[0]⟩] false)
 (.cond (.t 36)
 (.seq
 (.region [⟨some 37,(.build [(.imm (.slc 1 [])),(.imm (.int .i64 0)),(.imm (.int .i64 0)),(.imm (.int .i64 0)),(.imm (.int .i64 0))] []),[],none,[]⟩,
 ⟨some 38,.mov,[.t 9],none,[]⟩,
 ⟨none,(.store 5),[.t 6,.t 37],none,[0,0]⟩,
 ⟨some 7,.mov,[.t 38],none,[1,2,0,1,2]⟩] false)
 .ret)
 .skip)))
 (.keep [3,5,6,8] [3,5,6,8] b82k7))))
def d82:DFn:=⟨3,95,[.cell 6 true 5,.tmp 7],b82⟩
theorem body82:d82.body=b82:=rfl
theorem res82:d82.res=[.cell 6 true 5,.tmp 7]:=rfl
theorem k82:chkFn Tryz.prog Tryz.f82 d82=true:=by kernel_rfl
def b174:DCode :=
 (.seq
 (.region [⟨some 1,.box,[.t 0],none,[]⟩,
 ⟨some 2,.mov,[.c (.bool false)],none,[]⟩] false)
 (.seq
 (.region [⟨some 3,(.load true 2),[.t 1],none,[]⟩,
 ⟨some 4,.call,[.f 175,.t 3],none,[0]⟩,
 ⟨some 5,(.bin .neq),[.t 4,.c (.int .i64 0)],none,[1]⟩,
 ⟨some 2,.mov,[.t 5],none,[2,1,0,1,2]⟩] false)
 .ret))
def d174:DFn:=⟨1,6,[.tmp 2],b174⟩
theorem body174:d174.body=b174:=rfl
theorem res174:d174.res=[.tmp 2]:=rfl
theorem k174:chkFn Tryz.prog Tryz.f174 d174=true:=by kernel_rfl
def b84k0:DCode :=
 (.seq
 (.region [⟨some 33,(.faddr 0 true 5),[.t 7],none,[]⟩,
 ⟨some 34,(.load true 5),[.t 33],none,[0]⟩,
 ⟨some 35,(.faddr 1 true 2),[.t 5],none,[]⟩,
 ⟨some 36,(.load true 2),[.t 35],none,[2]⟩,
 ⟨some 37,(.load true 9),[.t 7],none,[]⟩,
 ⟨some 38,(.faddr 0 false 1),[.t 5],none,[]⟩,
 ⟨some 39,(.load false 1),[.t 38],none,[5]⟩,
 ⟨some 40,.call,[.f 167,.t 37,.t 39],none,[4,6]⟩,
 ⟨some 41,(.faddr 3 false 1),[.t 5],none,[]⟩,
 ⟨some 42,(.load false 1),[.t 41],none,[8]⟩,
 ⟨some 43,.call,[.f 177,.t 34,.t 36,.t 40,.t 42],none,[1,3,7,9,7]⟩,
 ⟨some 44,(.faddr 4 false 1),[.t 5],none,[]⟩,
 ⟨some 45,(.load false 1),[.t 44],none,[11]⟩,
 ⟨some 46,(.bin .eql),[.t 43,.t 45],none,[10,12]⟩,
 ⟨some 47,.call,[.f 163,.t 46,.c (.int .i64 19)],none,[13,10]⟩,
 ⟨some 6,.mov,[.t 47],none,[14,14,0,1,2,3,4,5,6,7,8,9,10,11,12,13,14]⟩] true)
 .ret)
def b84k1:DCode :=
 (.seq
 (.seq
 (.region [⟨some 30,.mov,[.t 8],none,[]⟩,
 ⟨some 31,(.bin .neq),[.t 30,.c (.int .i64 0)],none,[0]⟩] false)
 (.cond (.t 31)
 (.seq
 (.region [⟨some 32,.mov,[.t 8],none,[]⟩,
 ⟨some 6,.mov,[.t 32],none,[0,0]⟩] false)
 .ret)
 .skip))
 (.keep [5,7] [5,7] b84k0))
def b84:DCode :=
 (.seq
 (.region [⟨some 3,.box,[.t 0],none,[]⟩,
 ⟨some 4,.box,[.t 1],none,[]⟩,
 ⟨some 5,.box,[.t 2],none,[]⟩,
 ⟨some 6,.mov,[.c (.int .i64 0)],none,[]⟩] false)
 (.seq
 (.region [⟨some 10,(.load true 5),[.t 3],none,[]⟩,
 ⟨some 11,(.load true 4),[.t 4],none,[]⟩,
 ⟨some 12,.call,[.f 161,.t 10,.t 11],none,[0,1]⟩,
 ⟨some 9,.mov,[.t 12],none,[2]⟩,
 ⟨some 13,(.ext 0),[.t 9],none,[3]⟩,
 ⟨some 14,(.ext 1),[.t 9],none,[3]⟩,
 ⟨some 7,(.alloc [(.imm (.int .i64 0)),(.imm (.int .i64 0)),(.imm (.int .i64 0)),(.imm (.int .i64 0)),(.imm (.int .i64 0)),(.imm (.int .i64 0)),(.imm (.slc 1 [])),(.imm (.int .i64 0)),(.imm (.int .i64 0))]),[],none,[]⟩,
 ⟨none,(.store 9),[.t 7,.t 13],none,[6,4,2,0,1,2,3,4,6]⟩,
 ⟨some 8,.mov,[.t 14],none,[5,7,0,1,2,3,4,5,6,7]⟩] false)
 (.seq
 (.seq
 (.region [⟨some 15,.mov,[.t 8],none,[]⟩,
 ⟨some 16,(.bin .eql),[.t 15,.c (.int .i64 0)],none,[0]⟩] false)
 (.cond (.t 16)
 (.region [⟨some 17,(.load true 9),[.t 7],none,[]⟩,
 ⟨some 18,(.faddr 0 false 1),[.t 5],none,[]⟩,
 ⟨some 19,(.load false 1),[.t 18],none,[1]⟩,
 ⟨some 20,.call,[.f 166,.t 17,.t 19],none,[0,2]⟩,
 ⟨some 21,(.faddr 1 true 2),[.t 5],none,[]⟩,
 ⟨some 22,(.load true 2),[.t 21],none,[4]⟩,
 ⟨some 23,.call,[.f 175,.t 22],none,[5,3]⟩,
 ⟨some 24,(.load true 5),[.t 3],none,[]⟩,
 ⟨some 25,(.faddr 3 false 1),[.t 5],none,[]⟩,
 ⟨some 26,(.load false 1),[.t 25],none,[8]⟩,
 ⟨some 27,.call,[.f 171,.t 24,.t 26],none,[7,9,6]⟩,
 ⟨some 28,(.bsl 1),[.t 20,.t 23,.t 27],none,[3,6,10]⟩,
 ⟨some 29,.call,[.f 158,.t 28],none,[11,10]⟩,
 ⟨some 8,.mov,[.t 29],none,[12,12,0,1,2,3,4,5,6,7,8,9,10,11,12]⟩] true)
 .skip))
 (.keep [5,7,8] [5,7] b84k1))))
def d84:DFn:=⟨3,48,[.tmp 6],b84⟩
theorem body84:d84.body=b84:=rfl
theorem res84:d84.res=[.tmp 6]:=rfl
theorem k84:chkFn Tryz.prog Tryz.f84 d84=true:=by kernel_rfl
def b159:DCode :=
 (.seq
 (.region [⟨some 1,.box,[.t 0],none,[]⟩,
 ⟨some 2,.mov,[.c (.int .i64 0)],none,[]⟩] false)
 (.seq
 (.region [⟨some 3,(.faddr 0 true 4),[.t 1],none,[]⟩,
 ⟨some 4,(.load true 4),[.t 3],none,[0]⟩,
 ⟨some 5,.call,[.f 229,.t 4],none,[1]⟩,
 ⟨some 6,(.faddr 4 false 1),[.t 1],none,[]⟩,
 ⟨some 7,(.load false 1),[.t 6],none,[3]⟩,
 ⟨some 8,.call,[.f 206,.t 7,.c (.int .i64 1),.c (.int .i64 8)],none,[4,2]⟩,
 ⟨some 9,.mov,[.t 8],none,[5,5]⟩,
 ⟨some 10,(.faddr 5 true 2),[.t 1],(some (9,true)),[6]⟩,
 ⟨some 11,(.faddr 0 false 1),[.t 10],(some (9,true)),[7,6]⟩,
 ⟨some 12,(.load false 1),[.t 11],(some (9,true)),[8,6]⟩,
 ⟨some 13,.call,[.f 230,.t 12],(some (9,true)),[9,6,6]⟩,
 ⟨some 14,.pick,[.t 9,.t 13,.c (.bool false)],none,[6,10]⟩,
 ⟨some 15,.mov,[.t 14],none,[11,10]⟩,
 ⟨some 16,(.faddr 5 true 2),[.t 1],(some (15,true)),[12]⟩,
 ⟨some 17,(.faddr 1 false 1),[.t 16],(some (15,true)),[13,12]⟩,
 ⟨some 18,(.load false 1),[.t 17],(some (15,true)),[14,12]⟩,
 ⟨some 19,.call,[.f 230,.t 18],(some (15,true)),[15,12,12]⟩,
 ⟨some 20,.pick,[.t 15,.t 19,.c (.bool false)],none,[12,16]⟩,
 ⟨some 21,.call,[.f 163,.t 20,.c (.int .i64 2)],none,[17,16]⟩,
 ⟨some 22,(.faddr 5 true 2),[.t 1],none,[]⟩,
 ⟨some 23,(.faddr 0 false 1),[.t 22],none,[19]⟩,
 ⟨some 24,(.load false 1),[.t 23],none,[20]⟩,
 ⟨some 25,(.faddr 5 true 2),[.t 1],none,[]⟩,
 ⟨some 26,(.faddr 1 false 1),[.t 25],none,[22]⟩,
 ⟨some 27,(.load false 1),[.t 26],none,[23]⟩,
 ⟨some 28,(.bin .leq),[.t 24,.t 27],none,[21,24]⟩,
 ⟨some 29,.call,[.f 163,.t 28,.c (.int .i64 9)],none,[25,18]⟩,
 ⟨some 30,(.bsl 1),[.t 5,.t 21,.t 29],none,[2,18,26]⟩,
 ⟨some 31,.call,[.f 158,.t 30],none,[27,26]⟩,
 ⟨some 2,.mov,[.t 31],none,[28,28,0,1,2,3,4,5,6,7,8,9,10,11,12,13,14,15,16,17,18,19,20,21,22,23,24,25,26,27,28]⟩] true)
 .ret))
def d159:DFn:=⟨1,32,[.tmp 2],b159⟩
theorem body159:d159.body=b159:=rfl
theorem res159:d159.res=[.tmp 2]:=rfl
theorem k159:chkFn Tryz.prog Tryz.f159 d159=true:=by kernel_rfl
def b231:DCode :=
 (.seq
 (.region [⟨some 2,.box,[.t 0],none,[]⟩,
 ⟨some 3,.box,[.t 1],none,[]⟩,
 ⟨some 4,.mov,[.c .nilf],none,[]⟩] false)
 (.seq
 (.freeze [2,3]
 (.region [⟨some 5,(.mkfn 285 0),[.t 2,.t 3],none,[]⟩,
 ⟨some 4,.mov,[.t 5],none,[0,0]⟩] false))
 .ret))
def d231:DFn:=⟨2,6,[.tmp 4],b231⟩
theorem body231:d231.body=b231:=rfl
theorem res231:d231.res=[.tmp 4]:=rfl
theorem k231:chkFn Tryz.prog Tryz.f231 d231=true:=by kernel_rfl
def b285k0:DCode :=
 (.region [⟨some 47,(.bin .add),[.t 14,.c (.int .i64 1)],none,[]⟩,
 ⟨some 14,.mov,[.t 47],none,[0]⟩] false)
def b285k1:DCode :=
 (.seq
 (.block 1
 (.seq
 (.region [⟨some 16,.mov,[.t 14],none,[]⟩,
 ⟨some 5,.mov,[.t 16],none,[0,0]⟩] false)
 (.seq
 (.region [⟨some 17,(.faddr 0 false 1),[.t 1],none,[]⟩,
 ⟨some 18,(.load false 1),[.t 17],none,[0]⟩,
 ⟨some 19,.mov,[.t 5],none,[]⟩,
 ⟨some 20,.mov,[.t 4],none,[]⟩,
 ⟨some 21,(.bin .mul),[.t 19,.t 20],none,[2,3]⟩,
 ⟨some 22,(.load false 1),[.t 2],none,[]⟩,
 ⟨some 23,(.bin .quo),[.t 21,.t 22],none,[4,5]⟩,
 ⟨some 24,(.bin .add),[.t 18,.t 23],none,[1,6]⟩,
 ⟨some 25,(.faddr 0 false 1),[.t 1],none,[]⟩,
 ⟨some 26,(.load false 1),[.t 25],none,[8]⟩,
 ⟨some 27,.mov,[.t 5],none,[]⟩,
 ⟨some 28,(.bin .add),[.t 27,.c (.int .i64 1)],none,[10]⟩,
 ⟨some 29,.mov,[.t 4],none,[]⟩,
 ⟨some 30,(.bin .mul),[.t 28,.t 29],none,[11,12]⟩,
 ⟨some 31,(.load false 1),[.t 2],none,[]⟩,
 ⟨some 32,(.bin .quo),[.t 30,.t 31],none,[13,14]⟩,
 ⟨some 33,(.bin .add),[.t 26,.t 32],none,[9,15]⟩,
 ⟨some 34,(.bin .sub),[.t 33,.c (.int .i64 1)],none,[16]⟩,
 ⟨some 35,(.build [(.imm (.int .i64 0)),(.imm (.int .i64 0))] [(0,1),(1,1)]),[.t 24,.t 34],none,[7,17]⟩,
 ⟨some 6,(.alloc [(.imm (.int .i64 0)),(.imm (.int .i64 0))]),[],none,[]⟩,
 ⟨none,(.store 2),[.t 6,.t 35],none,[19,18,0,1,2,3,4,5,6,7,8,9,10,11,12,13,14,15,16,17,18,19]⟩] true)
 (.seq
 (.region [⟨some 36,(.faddr 0 false 1),[.t 6],none,[]⟩,
 ⟨some 37,(.load false 1),[.t 36],none,[0]⟩,
 ⟨some 38,(.faddr 1 false 1),[.t 6],none,[]⟩,
 ⟨some 39,(.load false 1),[.t 38],none,[2]⟩,
 ⟨some 40,(.bin .leq),[.t 37,.t 39],none,[1,3]⟩,
 ⟨some 41,.mov,[.t 40],none,[4]⟩,
 ⟨some 42,.mov,[.t 0],(some (41,true)),[5]⟩,
 ⟨some 43,(.load true 2),[.t 6],(some (41,true)),[5]⟩,
 ⟨some 44,.yield,[.t 42,.t 43],(some (41,true)),[6,7,5,5]⟩,
 ⟨some 45,(.un .not),[.t 44],(some (41,true)),[8,5]⟩,
 ⟨some 46,.pick,[.t 41,.t 45,.c (.bool false)],none,[5,9]⟩] false)
 (.cond (.t 46)
 .ret
 .skip)))))
 (.keep [0,1,2,4,13,14] [0] b285k0))
def b285l0:DCode:=.keep [0,1,2,4,13,14] [0]
 (.seq
 (.region [⟨some 15,(.bin .lss),[.t 14,.t 13],none,[]⟩] false)
 (.seq
 (.cond (.t 15)
 .skip
 (.exit 0))
 (.keep [0,1,2,4,13,14] [0] b285k1)))
def b285:DCode :=
 (.seq
 (.region [⟨some 7,(.faddr 1 false 1),[.t 1],none,[]⟩,
 ⟨some 8,(.load false 1),[.t 7],none,[0]⟩,
 ⟨some 9,(.faddr 0 false 1),[.t 1],none,[]⟩,
 ⟨some 10,(.load false 1),[.t 9],none,[2]⟩,
 ⟨some 11,(.bin .sub),[.t 8,.t 10],none,[1,3]⟩,
 ⟨some 12,(.bin .add),[.t 11,.c (.int .i64 1)],none,[4]⟩,
 ⟨some 4,.mov,[.t 12],none,[5,0,1,2,3,4,5]⟩] false)
 (.seq
 (.region [⟨some 13,(.load false 1),[.t 2],none,[]⟩,
 ⟨some 14,.mov,[.c (.int .i64 0)],none,[]⟩] false)
 (.block 0
 (.loop b285l0))))
def d285:DFn:=⟨3,48,[],b285⟩
theorem body285:d285.body=b285:=rfl
theorem res285:d285.res=[]:=rfl
theorem k285:chkFnB Tryz.prog Tryz.f285 d285 [0] [0]=true:=by kernel_rfl
def b160a0:DCode :=
 (.region [⟨some 5,(.alloc [(.imm (.int .i64 0)),(.imm (.int .i64 0))]),[],none,[]⟩,
 ⟨none,(.store 2),[.t 5,.t 19],none,[0,0]⟩] false)
def b160r0:DCode :=
 (.block 3
 (.region [⟨some 20,(.load false 1),[.t 3],none,[]⟩,
 ⟨some 21,(.load true 2),[.t 4],none,[]⟩,
 ⟨some 22,(.load true 2),[.t 5],none,[]⟩,
 ⟨some 23,(.build [(.imm (.int .i64 0)),(.imm (.int .i64 0)),(.imm (.int .i64 0)),(.imm (.int .i64 0))] [(0,2),(2,2)]),[.t 21,.t 22],none,[1,2]⟩,
 ⟨some 24,(.bsl 4),[.t 23],none,[3]⟩,
 ⟨some 25,(.append 4 32 false),[.t 20,.t 24],none,[0,4]⟩,
 ⟨none,(.store 1),[.t 3,.t 25],none,[5,5,0,1,2,3,4,5]⟩] false))
def b160a1:DCode :=
 (.region [⟨some 4,(.alloc [(.imm (.int .i64 0)),(.imm (.int .i64 0))]),[],none,[]⟩,
 ⟨none,(.store 2),[.t 4,.t 12],none,[0,0]⟩] false)
def b160r1:DCode :=
 (.block 1
 (.seq
 (.region [⟨some 13,(.faddr 0 true 4),[.t 1],none,[]⟩,
 ⟨some 14,(.faddr 2 true 2),[.t 13],none,[0]⟩,
 ⟨some 15,(.load true 2),[.t 14],none,[1]⟩,
 ⟨some 16,(.faddr 4 false 1),[.t 1],none,[]⟩,
 ⟨some 17,(.load false 1),[.t 16],none,[3]⟩,
 ⟨some 18,.call,[.f 231,.t 15,.t 17],none,[2,4]⟩] false)
 (.block 2
 (.rangeF (.t 18) [19] [3,4] [3,4] [] [1,3,4,25,1003] b160a0 b160r0))))
def b160k0:DCode :=
 (.seq
 (.region [⟨some 26,(.load false 1),[.t 3],none,[]⟩,
 ⟨some 2,.movv,[.t 26],none,[0,0]⟩] false)
 .ret)
def b160:DCode :=
 (.seq
 (.region [⟨some 1,.box,[.t 0],none,[]⟩,
 ⟨some 2,.mov,[.c (.slc 4 [])],none,[]⟩] false)
 (.seq
 (.region [⟨some 3,(.alloc [(.cap0 4 [])]),[],none,[]⟩] false)
 (.mktok 3 0 1003 4
 (.seq
 (.seq
 (.region [⟨some 6,(.faddr 0 true 4),[.t 1],none,[]⟩,
 ⟨some 7,(.faddr 0 true 2),[.t 6],none,[0]⟩,
 ⟨some 8,(.load true 2),[.t 7],none,[1]⟩,
 ⟨some 9,(.faddr 4 false 1),[.t 1],none,[]⟩,
 ⟨some 10,(.load false 1),[.t 9],none,[3]⟩,
 ⟨some 11,.call,[.f 231,.t 8,.t 10],none,[2,4]⟩] false)
 (.block 0
 (.rangeF (.t 11) [12] [1,3] [1,3] [] [1,3,25,1003] b160a1 b160r1)))
 (.keep [3] [3,25,1003] b160k0)))))
def d160:DFn:=⟨1,27,[.tmp 2],b160⟩
theorem body160:d160.body=b160:=rfl
theorem res160:d160.res=[.tmp 2]:=rfl
theorem k160:chkFn Tryz.prog Tryz.f160 d160=true:=by kernel_rfl
def b71k0:DCode :=
 (.seq
 (.region [⟨some 16,(.load true 7),[.t 3],none,[]⟩,
 ⟨some 17,.call,[.f 160,.t 16],none,[0]⟩,
 ⟨some 4,.movv,[.t 17],none,[1,1,0,1]⟩,
 ⟨some 5,.mov,[.c (.int .i64 0)],none,[2,0,1,2]⟩] false)
 .ret)
def b71:DCode :=
 (.seq
 (.region [⟨some 2,.box,[.t 0],none,[]⟩,
 ⟨some 3,.box,[.t 1],none,[]⟩,
 ⟨some 4,.mov,[.c (.slc 4 [])],none,[]⟩,
 ⟨some 5,.mov,[.c (.int .i64 0)],none,[2]⟩] false)
 (.seq
 (.seq
 (.region [⟨some 7,(.load true 5),[.t 2],none,[]⟩,
 ⟨some 8,.call,[.f 110,.t 7],none,[0]⟩,
 ⟨some 9,(.load true 7),[.t 3],none,[]⟩,
 ⟨some 10,.call,[.f 159,.t 9],none,[2,1]⟩,
 ⟨some 11,(.bsl 1),[.t 8,.t 10],none,[1,3]⟩,
 ⟨some 12,.call,[.f 158,.t 11],none,[4,3]⟩,
 ⟨some 6,.mov,[.t 12],none,[5,5,0,1,2,3,4,5]⟩] true)
 (.seq
 (.region [⟨some 13,.mov,[.t 6],none,[]⟩,
 ⟨some 14,(.bin .neq),[.t 13,.c (.int .i64 0)],none,[0]⟩] false)
 (.cond (.t 14)
 (.seq
 (.region [⟨some 15,.mov,[.t 6],none,[]⟩,
 ⟨some 4,.mov,[.c (.slc 4 [])],none,[]⟩,
 ⟨some 5,.mov,[.t 15],none,[0,1,0,1]⟩] false)
 .ret)
 .skip)))
 (.keep [3] [3] b71k0)))
def d71:DFn:=⟨2,18,[.tmp 4,.tmp 5],b71⟩
theorem body71:d71.body=b71:=rfl
theorem res71:d71.res=[.tmp 4,.tmp 5]:=rfl
theorem k71:chkFn Tryz.prog Tryz.f71 d71=true:=by kernel_rfl
def b164k0:DCode :=
 (.region [⟨some 31,(.bin .add),[.t 22,.c (.int .i64 1)],none,[]⟩,
 ⟨some 22,.mov,[.t 31],none,[0]⟩] false)
def b164k1:DCode :=
 (.seq
 (.block 1
 (.seq
 (.region [⟨some 24,(.iaddr 4),[.t 20,.t 22],none,[]⟩,
 ⟨some 25,(.load true 4),[.t 24],none,[0]⟩,
 ⟨some 5,(.alloc [(.imm (.int .i64 0)),(.imm (.int .i64 0)),(.imm (.int .i64 0)),(.imm (.int .i64 0))]),[],none,[]⟩,
 ⟨none,(.store 4),[.t 5,.t 25],none,[2,1,0,1,2]⟩] false)
 (.seq
 (.region [⟨some 26,(.load true 4),[.t 5],none,[]⟩,
 ⟨some 27,.call,[.f 229,.t 26],none,[0]⟩,
 ⟨some 6,.mov,[.t 27],none,[1,1,0,1]⟩] false)
 (.seq
 (.region [⟨some 28,.mov,[.t 6],none,[]⟩,
 ⟨some 29,(.bin .neq),[.t 28,.c (.int .i64 0)],none,[0]⟩] false)
 (.cond (.t 29)
 (.seq
 (.region [⟨some 30,.mov,[.t 6],none,[]⟩,
 ⟨some 2,.mov,[.t 30],none,[0,0]⟩] false)
 .ret)
 .skip)))))
 (.keep [20,21,22] [] b164k0))
def b164l0:DCode:=.keep [20,21,22] []
 (.seq
 (.region [⟨some 23,(.bin .lss),[.t 22,.t 21],none,[]⟩] false)
 (.seq
 (.cond (.t 23)
 .skip
 (.exit 0))
 (.keep [20,21,22] [] b164k1)))
def b164k2:DCode :=
 (.seq
 (.region [⟨some 2,.mov,[.c (.int .i64 0)],none,[]⟩] false)
 .ret)
def b164k3:DCode :=
 (.seq
 (.seq
 (.region [⟨some 20,.movv,[.t 0],none,[]⟩,
 ⟨some 21,.len,[.t 20],none,[0]⟩,
 ⟨some 22,.mov,[.c (.int .i64 0)],none,[]⟩] false)
 (.block 0
 (.loop b164l0)))
 (.keep [] [] b164k2))
def b164:DCode :=
 (.seq
 (.region [⟨some 2,.mov,[.c (.int .i64 0)],none,[]⟩] false)
 (.seq
 (.seq
 (.region [⟨some 7,.movv,[.t 0],none,[]⟩,
 ⟨some 8,.len,[.t 7],none,[0]⟩,
 ⟨some 9,(.bin .gtr),[.t 8,.c (.int .i64 0)],none,[1]⟩,
 ⟨some 10,.call,[.f 163,.t 9,.c (.int .i64 10)],none,[2]⟩,
 ⟨some 11,.movv,[.t 0],none,[]⟩,
 ⟨some 12,.len,[.t 11],none,[4]⟩,
 ⟨some 13,(.bin .leq),[.t 12,.c (.int .i64 64)],none,[5]⟩,
 ⟨some 14,.call,[.f 163,.t 13,.c (.int .i64 8)],none,[6,3]⟩,
 ⟨some 15,(.bsl 1),[.t 10,.t 14],none,[3,7]⟩,
 ⟨some 16,.call,[.f 158,.t 15],none,[8,7]⟩,
 ⟨some 3,.mov,[.t 16],none,[9,9,0,1,2,3,4,5,6,7,8,9]⟩] false)
 (.seq
 (.region [⟨some 17,.mov,[.t 3],none,[]⟩,
 ⟨some 18,(.bin .neq),[.t 17,.c (.int .i64 0)],none,[0]⟩] false)
 (.cond (.t 18)
 (.seq
 (.region [⟨some 19,.mov,[.t 3],none,[]⟩,
 ⟨some 2,.mov,[.t 19],none,[0,0]⟩] false)
 .ret)
 .skip)))
 (.keep [0] [] b164k3)))
def d164:DFn:=⟨1,32,[.tmp 2],b164⟩
theorem body164:d164.body=b164:=rfl
theorem res164:d164.res=[.tmp 2]:=rfl
theorem k164:chkFn Tryz.prog Tryz.f164 d164=true:=by kernel_rfl
def b165k0:DCode :=
 (.region [⟨some 35,(.faddr 0 false 1),[.t 6],none,[]⟩,
 ⟨some 36,(.load false 1),[.t 35],none,[0]⟩,
 ⟨some 37,(.faddr 0 true 2),[.t 12],none,[]⟩,
 ⟨some 38,(.faddr 0 false 1),[.t 37],none,[2]⟩,
 ⟨some 39,(.load false 1),[.t 38],none,[3]⟩,
 ⟨some 40,(.mm false),[.t 36,.t 39],none,[1,4]⟩,
 ⟨some 41,(.faddr 1 false 1),[.t 6],none,[]⟩,
 ⟨some 42,(.load false 1),[.t 41],none,[6]⟩,
 ⟨some 43,(.faddr 0 true 2),[.t 12],none,[]⟩,
 ⟨some 44,(.faddr 1 false 1),[.t 43],none,[8]⟩,
 ⟨some 45,(.load false 1),[.t 44],none,[9]⟩,
 ⟨some 46,(.mm true),[.t 42,.t 45],none,[7,10]⟩,
 ⟨some 47,(.build [(.imm (.int .i64 0)),(.imm (.int .i64 0))] [(0,1),(1,1)]),[.t 40,.t 46],none,[5,11]⟩,
 ⟨none,(.store 2),[.t 6,.t 47],none,[12,0,1,2,3,4,5,6,7,8,9,10,11,12]⟩] false)
def b165a0:DCode :=
 (.region [⟨some 12,(.alloc [(.imm (.int .i64 0)),(.imm (.int .i64 0)),(.imm (.int .i64 0)),(.imm (.int .i64 0))]),[],none,[]⟩,
 ⟨none,(.store 4),[.t 12,.t 30],none,[0,0]⟩] false)
def b165r0:DCode :=
 (.block 5
 (.seq
 (.seq
 (.region [⟨some 31,(.load false 1),[.t 7],none,[]⟩,
 ⟨some 32,(.un .not),[.t 31],none,[0]⟩] false)
 (.cond (.t 32)
 (.region [⟨some 33,(.faddr 0 true 2),[.t 12],none,[]⟩,
 ⟨some 34,(.load true 2),[.t 33],none,[0]⟩,
 ⟨none,(.store 2),[.t 6,.t 34],none,[1,0,1]⟩,
 ⟨none,(.store 1),[.t 7,.c (.bool true)],none,[2,0,1,2]⟩] false)
 .skip))
 (.keep [6,12] [2,3,4,6,7,12] b165k0)))
def b165k1:DCode :=
 (.region [⟨some 48,(.bin .add),[.t 21,.c (.int .i64 1)],none,[]⟩,
 ⟨some 21,.mov,[.t 48],none,[0]⟩] false)
def b165k2:DCode :=
 (.seq
 (.block 3
 (.seq
 (.region [⟨some 23,(.iaddr 4),[.t 19,.t 21],none,[]⟩,
 ⟨some 24,(.load true 4),[.t 23],none,[0]⟩,
 ⟨some 11,(.alloc [(.imm (.int .i64 0)),(.imm (.int .i64 0)),(.imm (.int .i64 0)),(.imm (.int .i64 0))]),[],none,[]⟩,
 ⟨none,(.store 4),[.t 11,.t 24],none,[2,1,0,1,2]⟩] false)
 (.seq
 (.region [⟨some 25,(.faddr 0 true 5),[.t 2],none,[]⟩,
 ⟨some 26,(.load true 5),[.t 25],none,[0]⟩,
 ⟨some 27,(.load true 4),[.t 11],none,[]⟩,
 ⟨some 28,.movv,[.t 9],none,[]⟩,
 ⟨some 29,.call,[.f 233,.t 26,.t 27,.t 28],none,[1,2,3]⟩] false)
 (.block 4
 (.rangeF (.t 29) [30] [2,6,7,9,19,20,21] [2,6,7] [] [2,3,4,6,7] b165a0 b165r0)))))
 (.keep [2,6,7,9,19,20,21] [2,3,4,6,7] b165k1))
def b165l1:DCode:=.keep [2,6,7,9,19,20,21] [2,3,4,6,7]
 (.seq
 (.region [⟨some 22,(.bin .lss),[.t 21,.t 20],none,[]⟩] false)
 (.seq
 (.cond (.t 22)
 .skip
 (.exit 2))
 (.keep [2,6,7,9,19,20,21] [2,3,4,6,7] b165k2)))
def b165a2:DCode :=
 (.region [⟨some 8,.movv,[.t 15],none,[]⟩] false)
def b165r2:DCode :=
 (.block 1
 (.seq
 (.region [⟨some 16,(.load true 9),[.t 2],none,[]⟩,
 ⟨some 17,.movv,[.t 8],none,[]⟩,
 ⟨some 18,.call,[.f 167,.t 16,.t 17],none,[0,1]⟩,
 ⟨some 9,.movv,[.t 18],none,[2,2,0,1,2]⟩] false)
 (.seq
 (.region [⟨some 19,(.load false 1),[.t 3],none,[]⟩,
 ⟨some 20,.len,[.t 19],none,[0]⟩,
 ⟨some 21,.mov,[.c (.int .i64 0)],none,[]⟩] false)
 (.block 2
 (.loop b165l1)))))
def b165k3:DCode :=
 (.seq
 (.region [⟨some 49,(.loadf true 2 [6]),[.t 6],none,[]⟩,
 ⟨some 50,(.loadf false 1 [7]),[.t 7],none,[]⟩,
 ⟨none,(.storef 2 [4]),[.t 4,.t 49],none,[0,0]⟩,
 ⟨some 5,.mov,[.t 50],none,[1,2,0,1,2]⟩] true)
 .ret)
def b165:DCode :=
 (.seq
 (.region [⟨some 2,.box,[.t 0],none,[]⟩,
 ⟨some 3,.box,[.t 1],none,[]⟩,
 ⟨some 4,(.alloc [(.imm (.int .i64 0)),(.imm (.int .i64 0))]),[],none,[]⟩,
 ⟨some 5,.mov,[.c (.bool false)],none,[]⟩] false)
 (.seq
 (.region [⟨some 6,(.alloc [(.imm (.int .i64 0)),(.imm (.int .i64 0))]),[],none,[]⟩] false)
 (.seq
 (.region [⟨some 7,(.alloc [(.imm (.bool false))]),[],none,[]⟩,
 ⟨none,(.store 1),[.t 7,.c (.bool false)],none,[0,0]⟩] false)
 (.seq
 (.seq
 (.region [⟨some 13,(.load true 9),[.t 2],none,[]⟩,
 ⟨some 14,(.mkfn 176 1),[.t 13],none,[0]⟩] false)
 (.block 0
 (.rangeF (.t 14) [15] [2,3,4,6,7] [2,3,4,6,7] [] [2,3,4,6,7] b165a2 b165r2)))
 (.keep [4,6,7] [4,6,7] b165k3)))))
def d165:DFn:=⟨2,51,[.cell 4 true 2,.tmp 5],b165⟩
theorem body165:d165.body=b165:=rfl
theorem res165:d165.res=[.cell 4 true 2,.tmp 5]:=rfl
theorem k165:chkFn Tryz.prog Tryz.f165 d165=true:=by kernel_rfl
def b75k0:DCode :=
 (.seq
 (.region [⟨some 28,(.load true 9),[.t 8],none,[]⟩,
 ⟨some 29,.movv,[.t 2],none,[]⟩,
 ⟨some 30,.call,[.f 165,.t 28,.t 29],none,[0,1]⟩,
 ⟨some 27,.mov,[.t 30],none,[2]⟩,
 ⟨some 31,(.ext 0),[.t 27],none,[3]⟩,
 ⟨some 32,(.ext 1),[.t 27],none,[3]⟩,
 ⟨some 10,(.alloc [(.imm (.int .i64 0)),(.imm (.int .i64 0))]),[],none,[]⟩,
 ⟨none,(.store 2),[.t 10,.t 31],none,[6,4,2,0,1,2,3,4,6]⟩,
 ⟨some 11,.mov,[.t 32],none,[5,7,0,1,2,3,4,5,6,7]⟩] false)
 (.seq
 (.region [⟨some 33,(.load true 2),[.t 10],none,[]⟩,
 ⟨some 34,.mov,[.t 11],none,[]⟩,
 ⟨some 35,.call,[.f 163,.t 34,.c (.int .i64 12)],none,[1]⟩,
 ⟨none,(.store 2),[.t 6,.t 33],none,[0,2,0]⟩,
 ⟨some 7,.mov,[.t 35],none,[2,3,0,1,2,3]⟩] true)
 .ret))
def b75:DCode :=
 (.seq
 (.region [⟨some 3,.box,[.t 0],none,[]⟩,
 ⟨some 4,.box,[.t 1],none,[]⟩,
 ⟨some 6,(.alloc [(.imm (.int .i64 0)),(.imm (.int .i64 0))]),[],none,[]⟩,
 ⟨some 7,.mov,[.c (.int .i64 0)],none,[]⟩] false)
 (.seq
 (.region [⟨some 13,(.load true 5),[.t 3],none,[]⟩,
 ⟨some 14,(.load true 4),[.t 4],none,[]⟩,
 ⟨some 15,.call,[.f 161,.t 13,.t 14],none,[0,1]⟩,
 ⟨some 12,.mov,[.t 15],none,[2]⟩,
 ⟨some 16,(.ext 0),[.t 12],none,[3]⟩,
 ⟨some 17,(.ext 1),[.t 12],none,[3]⟩,
 ⟨some 8,(.alloc [(.imm (.int .i64 0)),(.imm (.int .i64 0)),(.imm (.int .i64 0)),(.imm (.int .i64 0)),(.imm (.int .i64 0)),(.imm (.int .i64 0)),(.imm (.slc 1 [])),(.imm (.int .i64 0)),(.imm (.int .i64 0))]),[],none,[]⟩,
 ⟨none,(.store 9),[.t 8,.t 16],none,[6,4,2,0,1,2,3,4,6]⟩,
 ⟨some 9,.mov,[.t 17],none,[5,7,0,1,2,3,4,5,6,7]⟩] false)
 (.seq
 (.seq
 (.region [⟨some 18,.mov,[.t 9],none,[]⟩,
 ⟨some 19,.movv,[.t 2],none,[]⟩,
 ⟨some 20,.call,[.f 164,.t 19],none,[1]⟩,
 ⟨some 21,(.bsl 1),[.t 18,.t 20],none,[0,2]⟩,
 ⟨some 22,.call,[.f 158,.t 21],none,[3,2]⟩,
 ⟨some 9,.mov,[.t 22],none,[4,4,0,1,2,3,4]⟩] false)
 (.seq
 (.region [⟨some 23,.mov,[.t 9],none,[]⟩,
 ⟨some 24,(.bin .neq),[.t 23,.c (.int .i64 0)],none,[0]⟩] false)
 (.cond (.t 24)
 (.seq
 (.region [⟨some 25,(.build [(.imm (.int .i64 0)),(.imm (.int .i64 0))] []),[],none,[]⟩,
 ⟨some 26,.mov,[.t 9],none,[]⟩,
 ⟨none,(.store 2),[.t 6,.t 25],none,[0,0]⟩,
 ⟨some 7,.mov,[.t 26],none,[1,2,0,1,2]⟩] false)
 .ret)
 .skip)))
 (.keep [2,6,8] [6,8] b75k0))))
def d75:DFn:=⟨3,36,[.cell 6 true 2,.tmp 7],b75⟩
theorem body75:d75.body=b75:=rfl
theorem res75:d75.res=[.cell 6 true 2,.tmp 7]:=rfl
theorem k75:chkFn Tryz.prog Tryz.f75 d75=true:=by kernel_rfl
def b182k0:DCode :=
 (.region [⟨some 32,.mov,[.t 11],none,[]⟩,
 ⟨some 33,(.bin .add),[.t 32,.c (.int .i64 1)],none,[0]⟩,
 ⟨some 11,.mov,[.t 33],none,[1,0,1]⟩] false)
def b182k1:DCode :=
 (.seq
 (.block 1
 (.seq
 (.region [⟨some 34,.mov,[.t 11],none,[]⟩,
 ⟨some 35,(.faddr 5 true 4),[.t 8],none,[0]⟩,
 ⟨some 36,(.faddr 2 false 1),[.t 35],none,[1,0]⟩,
 ⟨none,(.store 1),[.t 36,.t 34],none,[2,0,0]⟩] false)
 (.seq
 (.region [⟨some 38,(.load true 9),[.t 8],none,[]⟩,
 ⟨some 39,.movv,[.t 10],none,[]⟩,
 ⟨some 40,.call,[.f 165,.t 38,.t 39],none,[0,1]⟩,
 ⟨some 37,.mov,[.t 40],none,[2]⟩,
 ⟨some 41,(.ext 0),[.t 37],none,[3]⟩,
 ⟨some 42,(.ext 1),[.t 37],none,[3]⟩,
 ⟨some 12,(.alloc [(.imm (.int .i64 0)),(.imm (.int .i64 0))]),[],none,[]⟩,
 ⟨none,(.store 2),[.t 12,.t 41],none,[6,4,2,0,1,2,3,4,6]⟩,
 ⟨some 13,.mov,[.t 42],none,[5,7,0,1,2,3,4,5,6,7]⟩] false)
 (.seq
 (.region [⟨some 43,.mov,[.t 13],none,[]⟩,
 ⟨some 44,.mov,[.t 43],none,[0]⟩,
 ⟨some 45,(.faddr 0 false 1),[.t 12],(some (44,true)),[1]⟩,
 ⟨some 46,(.load false 1),[.t 45],(some (44,true)),[2,1]⟩,
 ⟨some 47,(.faddr 5 true 2),[.t 5],(some (44,true)),[1]⟩,
 ⟨some 48,(.faddr 0 false 1),[.t 47],(some (44,true)),[4,1]⟩,
 ⟨some 49,(.load false 1),[.t 48],(some (44,true)),[5,1]⟩,
 ⟨some 50,(.bin .geq),[.t 46,.t 49],(some (44,true)),[3,6,1]⟩,
 ⟨some 51,.pick,[.t 44,.t 50,.c (.bool false)],none,[1,7]⟩,
 ⟨some 52,.mov,[.t 51],none,[8,1]⟩,
 ⟨some 53,(.faddr 1 false 1),[.t 12],(some (52,true)),[9]⟩,
 ⟨some 54,(.load false 1),[.t 53],(some (52,true)),[10,9]⟩,
 ⟨some 55,(.faddr 5 true 2),[.t 5],(some (52,true)),[9]⟩,
 ⟨some 56,(.faddr 1 false 1),[.t 55],(some (52,true)),[12,9]⟩,
 ⟨some 57,(.load false 1),[.t 56],(some (52,true)),[13,9]⟩,
 ⟨some 58,(.bin .leq),[.t 54,.t 57],(some (52,true)),[11,14,9]⟩,
 ⟨some 59,.pick,[.t 52,.t 58,.c (.bool false)],none,[9,15]⟩] false)
 (.cond (.t 59)
 (.seq
 (.region [⟨some 60,.mov,[.t 11],none,[]⟩,
 ⟨some 6,.mov,[.t 60],none,[0,0]⟩,
 ⟨some 7,.mov,[.c (.int .i64 0)],none,[1,0,1]⟩] false)
 .ret)
 .skip)))))
 (.keep [5,8,10,11] [5,8] b182k0))
def b182l0:DCode:=.keep [5,8,10,11] [5,8]
 (.seq
 (.seq
 (.region [⟨some 30,.mov,[.t 11],none,[]⟩,
 ⟨some 31,(.bin .leq),[.t 30,.c (.int .i64 20)],none,[0]⟩] false)
 (.cond (.t 31)
 .skip
 (.exit 0)))
 (.keep [5,8,10,11] [5,8] b182k1))
def b182k2:DCode :=
 (.seq
 (.region [⟨some 6,.mov,[.c (.int .i64 0)],none,[]⟩,
 ⟨some 7,.mov,[.c (.int .i64 12)],none,[0,0]⟩] false)
 .ret)
def b182k3:DCode :=
 (.seq
 (.region [⟨some 28,(.load true 7),[.t 5],none,[]⟩,
 ⟨some 29,.call,[.f 160,.t 28],none,[0]⟩,
 ⟨some 10,.movv,[.t 29],none,[1,1,0,1]⟩] false)
 (.seq
 (.seq
 (.region [⟨some 11,.mov,[.c (.int .i64 1)],none,[]⟩] false)
 (.block 0
 (.loop b182l0)))
 (.keep [] [] b182k2)))
def b182:DCode :=
 (.seq
 (.region [⟨some 3,.box,[.t 0],none,[]⟩,
 ⟨some 4,.box,[.t 1],none,[]⟩,
 ⟨some 5,.box,[.t 2],none,[]⟩,
 ⟨some 6,.mov,[.c (.int .i64 0)],none,[]⟩,
 ⟨some 7,.mov,[.c (.int .i64 0)],none,[3]⟩] false)
 (.seq
 (.region [⟨some 15,(.load true 5),[.t 3],none,[]⟩,
 ⟨some 16,(.load true 4),[.t 4],none,[]⟩,
 ⟨some 17,.call,[.f 161,.t 15,.t 16],none,[0,1]⟩,
 ⟨some 14,.mov,[.t 17],none,[2]⟩,
 ⟨some 18,(.ext 0),[.t 14],none,[3]⟩,
 ⟨some 19,(.ext 1),[.t 14],none,[3]⟩,
 ⟨some 8,(.alloc [(.imm (.int .i64 0)),(.imm (.int .i64 0)),(.imm (.int .i64 0)),(.imm (.int .i64 0)),(.imm (.int .i64 0)),(.imm (.int .i64 0)),(.imm (.slc 1 [])),(.imm (.int .i64 0)),(.imm (.int .i64 0))]),[],none,[]⟩,
 ⟨none,(.store 9),[.t 8,.t 18],none,[6,4,2,0,1,2,3,4,6]⟩,
 ⟨some 9,.mov,[.t 19],none,[5,7,0,1,2,3,4,5,6,7]⟩] false)
 (.seq
 (.seq
 (.region [⟨some 20,.mov,[.t 9],none,[]⟩,
 ⟨some 21,(.load true 7),[.t 5],none,[]⟩,
 ⟨some 22,.call,[.f 159,.t 21],none,[1]⟩,
 ⟨some 23,(.bsl 1),[.t 20,.t 22],none,[0,2]⟩,
 ⟨some 24,.call,[.f 158,.t 23],none,[3,2]⟩,
 ⟨some 9,.mov,[.t 24],none,[4,4,0,1,2,3,4]⟩] false)
 (.seq
 (.region [⟨some 25,.mov,[.t 9],none,[]⟩,
 ⟨some 26,(.bin .neq),[.t 25,.c (.int .i64 0)],none,[0]⟩] false)
 (.cond (.t 26)
 (.seq
 (.region [⟨some 27,.mov,[.t 9],none,[]⟩,
 ⟨some 6,.mov,[.c (.int .i64 0)],none,[]⟩,
 ⟨some 7,.mov,[.t 27],none,[0,1,0,1]⟩] false)
 .ret)
 .skip)))
 (.keep [5,8] [5,8] b182k3))))
def d182:DFn:=⟨3,61,[.tmp 6,.tmp 7],b182⟩
theorem body182:d182.body=b182:=rfl
theorem res182:d182.res=[.tmp 6,.tmp 7]:=rfl
theorem k182:chkFn Tryz.prog Tryz.f182 d182=true:=by kernel_rfl
end Go.DI

/- Contracts: the surge chambers' plans, their orders and loads. No condition. -/
set_option linter.unusedSimpArgs false
namespace Go.DI
open Go.Proofs Go.RowKit Sg
theorem s_IndexOf {l:List Int} {v:Int} (hl:l.length≤1000000000):Contract Tryz.prog 288 [.slc 1 (l.map (IV.int .i64)),.int .i64 v] (.int .i64 (idxF (fun x=>decide (v=x)) l)):=by
 refine contract_run Tryz.func288 k288 rfl ?_
 simp only [body288,b288,res288,b288k0,b288k1,b288k2, ↓reduceIte,reduceCtorEq,Nat.reduceEqDiff,Nat.reduceAdd,Nat.reduceMul,Nat.reduceSub,Nat.reduceLeDiff,Nat.reduceBEq,Int.reduceToNat,Int.reduceLE,Int.reduceLT,Int.reduceEq,Int.reduceNe,di]
 refine loop_keep (α:=Nat) rfl (fun i=>l.length - i) (fun i=>i≤l.length∧idxF (fun x=>decide (v=x)) l=if idxF (fun x=>decide (v=x)) (l.drop i) = -1 then -1 else idxF (fun x=>decide (v=x)) (l.drop i)+i)
  (fun i=>[(0,.imm (.slc 1 (l.map (IV.int .i64)))),(1,.imm (.int .i64 v)),(7,.imm (.int .i64 l.length)),(8,.imm (.int .i64 i))]) (fun _=>[]) 0 ⟨Nat.zero_le _,by simp⟩ (by simp only [↓reduceIte,reduceCtorEq,Nat.reduceEqDiff,Nat.reduceAdd,Nat.reduceMul,Nat.reduceSub,Nat.reduceLeDiff,Nat.reduceBEq,Int.reduceToNat,Int.reduceLE,Int.reduceLT,Int.reduceEq,Int.reduceNe,di,List.length_map] <;> rfl) ?_
 intro i ⟨hi,he⟩ ih
 simp only [res288,b288k0,b288k1,b288k2, ↓reduceIte,reduceCtorEq,Nat.reduceEqDiff,Nat.reduceAdd,Nat.reduceMul,Nat.reduceSub,Nat.reduceLeDiff,Nat.reduceBEq,Int.reduceToNat,Int.reduceLE,Int.reduceLT,Int.reduceEq,Int.reduceNe,di]
 split
 ·rename_i h
  have hlt:i<l.length:=by omega
  have hr:=idxF_range (p:=fun x=>decide (v=x)) (l.drop (i+1))
  rw [getD_drop hlt] at he
  generalize l.getD i 0=x at he
  repeat (refine And.intro (by omega) ?_)
  rw [idxF_cons] at he
  simp only [decide_eq_true_eq] at he
  split
  ·rename_i h2
   rw [if_pos h2,if_neg (by omega)] at he
   rw [he]; simp
  ·rename_i h2
   rw [if_neg h2] at he
   rw [wrap64 (by omega) (by omega)]
   refine ih (i+1) _ _ (by omega) ⟨by omega,?_⟩ (by simp only [↓reduceIte,reduceCtorEq,Nat.reduceEqDiff,Nat.reduceAdd,Nat.reduceMul,Nat.reduceSub,Nat.reduceLeDiff,Nat.reduceBEq,Int.reduceToNat,Int.reduceLE,Int.reduceLT,Int.reduceEq,Int.reduceNe,di] <;> rfl)
   rw [he]
   split
   ·rename_i h3; rw [if_pos rfl]
   ·rename_i h3; rw [if_neg (by omega)]; omega
 ·rename_i h
  have:i=l.length:=by omega
  subst this
  rw [he]
  simp [idxF]
theorem s_Contains {l:List Int} {v:Int} (hl:l.length≤1000000000):Contract Tryz.prog 234 [.slc 1 (l.map (IV.int .i64)),.int .i64 v] (.bool (decide (v ∈ l))):=by
 refine contract_run Tryz.func234 k234 rfl ?_
 simp only [body234,b234,res234, ↓reduceIte,reduceCtorEq,Nat.reduceEqDiff,Nat.reduceAdd,Nat.reduceMul,Nat.reduceSub,Nat.reduceLeDiff,Nat.reduceBEq,Int.reduceToNat,Int.reduceLE,Int.reduceLT,Int.reduceEq,Int.reduceNe,di]
 refine calls_of (s_IndexOf hl) ?_; simp only [res234, ↓reduceIte,reduceCtorEq,Nat.reduceEqDiff,Nat.reduceAdd,Nat.reduceMul,Nat.reduceSub,Nat.reduceLeDiff,Nat.reduceBEq,Int.reduceToNat,Int.reduceLE,Int.reduceLT,Int.reduceEq,Int.reduceNe,di]
 congr 2
 rw [Bool.eq_iff_iff,decide_eq_true_eq,idxF_any,decide_eq_true_eq]
 simp
def maxL:List Int→Int→Int
 | [],m=>m
 | x :: r,m=>maxL r (max m x)
theorem s_Max {l:List Int} (hl:l.length≤1000000000) (h0:l ≠ []):Contract Tryz.prog 242 [.slc 1 (l.map (IV.int .i64))] (.int .i64 (maxL (l.drop 1) (l.getD 0 0))):=by
 have hpos : 0<l.length:=by cases l with | nil=>exact (h0 rfl).elim | cons _ _=>simp
 refine contract_run Tryz.func242 k242 rfl ?_
 simp only [body242,b242,res242,b242k0,b242k1,b242k2, ↓reduceIte,reduceCtorEq,Nat.reduceEqDiff,Nat.reduceAdd,Nat.reduceMul,Nat.reduceSub,Nat.reduceLeDiff,Nat.reduceBEq,Int.reduceToNat,Int.reduceLE,Int.reduceLT,Int.reduceEq,Int.reduceNe,di]
 rw [if_neg (by omega)]
 repeat (refine And.intro (by omega) ?_)
 refine loop_keep (α:=Nat × Int) rfl (fun q=>l.length - q.1) (fun q=>1≤q.1∧q.1≤l.length∧maxL (l.drop q.1) q.2=maxL (l.drop 1) (l.getD 0 0))
  (fun q=>[(0,.imm (.slc 1 (l.map (IV.int .i64)))),(3,.imm (.int .i64 q.2)),(4,.imm (.int .i64 q.1))]) (fun _=>[]) (1,l.getD 0 0) ⟨Nat.le_refl _,hpos,rfl⟩ (by simp only [↓reduceIte,reduceCtorEq,Nat.reduceEqDiff,Nat.reduceAdd,Nat.reduceMul,Nat.reduceSub,Nat.reduceLeDiff,Nat.reduceBEq,Int.reduceToNat,Int.reduceLE,Int.reduceLT,Int.reduceEq,Int.reduceNe,di] <;> rfl) ?_
 rintro ⟨i,m⟩ ⟨hi1,hi,he⟩ ih
 dsimp only at hi1 hi he ⊢
 simp only [res242,b242k0,b242k1,b242k2, ↓reduceIte,reduceCtorEq,Nat.reduceEqDiff,Nat.reduceAdd,Nat.reduceMul,Nat.reduceSub,Nat.reduceLeDiff,Nat.reduceBEq,Int.reduceToNat,Int.reduceLE,Int.reduceLT,Int.reduceEq,Int.reduceNe,di]
 split
 ·rename_i h
  have hlt:i<l.length:=by omega
  repeat (refine And.intro (by omega) ?_)
  rw [wrap64 (by omega) (by omega)]
  rw [getD_drop hlt] at he
  refine ih (i+1,max m (l.getD i 0)) _ _ (by dsimp only; omega) ⟨by dsimp only; omega,by dsimp only; omega,he⟩ (by simp only [↓reduceIte,reduceCtorEq,Nat.reduceEqDiff,Nat.reduceAdd,Nat.reduceMul,Nat.reduceSub,Nat.reduceLeDiff,Nat.reduceBEq,Int.reduceToNat,Int.reduceLE,Int.reduceLT,Int.reduceEq,Int.reduceNe,di] <;> rfl)
 ·rename_i h
  have:i=l.length:=by omega
  subst this
  rw [← he]
  simp [maxL]
theorem b_CloneY {l:List Int} (hl:l.length≤1000000000) {n:Nat} {t:Todo}:BC Tryz.prog 178 [.imm (.slc 1 (l.map (IV.int .i64)))] (lookR [(0,.seq n t)]) fun r R'=>(l=[]∧r = .cap0 1 []∧R'=lookR [(0,.seq n t)])∨(r = .own 1000∧R'=lookR [(0,.seq n t),(1000,.tok 1 (l.map (IV.int .i64)))]):=by
 refine bc_run Tryz.func178 k2178 rfl rfl ?_
 simp only [body2178,b2178,res2178,b2178k0, ↓reduceIte,reduceCtorEq,Nat.reduceEqDiff,Nat.reduceAdd,Nat.reduceMul,Nat.reduceSub,Nat.reduceLeDiff,Nat.reduceBEq,Int.reduceToNat,Int.reduceLE,Int.reduceLT,Int.reduceEq,Int.reduceNe,di]
 refine ⟨fun h => ?_,by omega,by omega,?_⟩
 ·rw [outD_one res2178,getD_tmp]
  exact ⟨_,rfl,rfl,.inl ⟨by simpa using h,rfl⟩⟩
 ·refine run_ren rfl (by first | decide | rfl) (by first | decide | rfl) (by first | decide | rfl) ?_
  simp only [↓reduceIte,reduceCtorEq,Nat.reduceEqDiff,Nat.reduceAdd,Nat.reduceMul,Nat.reduceSub,Nat.reduceLeDiff,Nat.reduceBEq,Int.reduceToNat,Int.reduceLE,Int.reduceLT,Int.reduceEq,Int.reduceNe,di]
  rw [outD_one res2178,getD_tmp]
  exact ⟨_,rfl,rfl,.inr rfl⟩
theorem s_Clone {l:List Int} (hl:l.length≤1000000000):Contract Tryz.prog 178 [.slc 1 (l.map (IV.int .i64))] (.slc 1 (l.map (IV.int .i64))):=by
 refine contract_run Tryz.func178 k178 rfl ?_
 simp only [body178,b178,res178,b178k0, ↓reduceIte,reduceCtorEq,Nat.reduceEqDiff,Nat.reduceAdd,Nat.reduceMul,Nat.reduceSub,Nat.reduceLeDiff,Nat.reduceBEq,Int.reduceToNat,Int.reduceLE,Int.reduceLT,Int.reduceEq,Int.reduceNe,di]
 exact ⟨fun h=>by rw [h],by omega,by omega⟩
def changeErr (n:Int):Int:=fstE (if Wi n (-1000) 1000 then 0 else 2) (if n ≠ 0 then 0 else 11)
def scanC:List Int→Nat→Option (Int × Int)
 | [],_=>none
 | n :: r,i=>if changeErr n=0 then scanC r (i+1) else some (i,changeErr n)
def lenE (n:Nat):Int:=if n≤4 then 0 else 8
theorem lenE_zero {n:Nat}:lenE n=0↔n≤4:=by
 unfold lenE
 by_cases h:n≤4 <;> simp [h]
def planE (p:Pl):Int × Int :=
 if fstE (loadErr p.load) (lenE p.ch.length)=0 then
  match scanC p.ch 0 with
  | some q=>q
  | none=>(0,if Wi p.wait 1 20∧Wi p.ticks 1 200 then 0 else 2)
 else (0,fstE (loadErr p.load) (lenE p.ch.length))
theorem scanC_cons {n:Int} {r:List Int} {i:Nat}:scanC (n :: r) i=if changeErr n=0 then scanC r (i+1) else some ((i:Int),changeErr n):=rfl
theorem scanC_none:∀ {l:List Int} {i:Nat},scanC l i=none↔∀ n ∈ l,(-1000≤n∧n≤1000)∧n ≠ 0
 | [],i=>by simp [scanC]
 | n :: r,i=>by
  have ih:=scanC_none (l:=r) (i:=i+1)
  have hc:changeErr n=0↔(-1000≤n∧n≤1000)∧n ≠ 0:=by
   unfold changeErr Wi
   rw [fstE_zero]
   by_cases h1 : -1000≤n∧n≤1000 <;> by_cases h2:n=0 <;> simp [h1,h2]
  unfold scanC
  by_cases h:changeErr n=0
  ·rw [if_pos h,ih]; simp [hc.1 h]
  ·rw [if_neg h]
   constructor
   ·intro k; cases k
   ·intro k; exact (h (hc.2 (k n (by simp)))).elim
theorem scanC_some:∀ {l:List Int} {i:Nat} {q:Int × Int},scanC l i=some q→q.2 ≠ 0
 | [],i,q,h=>by simp [scanC] at h
 | n :: r,i,q,h=>by
  unfold scanC at h
  split at h
  ·exact scanC_some h
  ·rename_i h2; cases h; exact h2
structure PlanOk (p:Pl):Prop where
 load : 0≤p.load∧p.load≤1000
 len:p.ch.length≤4
 ch:∀ n ∈ p.ch,(-1000≤n∧n≤1000)∧n ≠ 0
 wait : 1≤p.wait∧p.wait≤20
 ticks : 1≤p.ticks∧p.ticks≤200
theorem planE_zero {p:Pl}:(planE p).2=0↔PlanOk p:=by
 unfold planE
 split
 ·rename_i h
  rw [fstE_zero,loadErr_zero,lenE_zero] at h
  have hlen:=h.2
  split
  ·rename_i q hq
   constructor
   ·intro k; exact (scanC_some hq k).elim
   ·intro k
    have:=(scanC_none (l:=p.ch) (i:=0)).2 k.ch
    rw [hq] at this; cases this
  ·rename_i hq
   constructor
   ·intro k
    by_cases hw:Wi p.wait 1 20∧Wi p.ticks 1 200
    ·exact ⟨h.1,hlen,scanC_none.1 hq,hw.1,hw.2⟩
    ·rw [if_neg hw] at k; cases k
   ·intro k
    rw [if_pos ⟨k.wait,k.ticks⟩]
 ·rename_i h
  constructor
  ·intro k; exact (h k).elim
  ·intro k
   exfalso; apply h
   rw [fstE_zero,loadErr_zero,lenE_zero]
   exact ⟨k.load,k.len⟩
theorem s_planErr {p:Pl} (hl:p.ch.length≤1000000000):Contract Tryz.prog 286 [spI p] (.tup [.int .i64 (planE p).1,.int .i64 (planE p).2]):=by
 refine contract_run Tryz.func286 k286 rfl ?_
 simp only [body286,b286,res286,b286k0,b286k1,b286k2,b286k3,ruI,ssI,sbI,spI,swI,scI,stI,srI,saI,snI, ↓reduceIte,reduceCtorEq,Nat.reduceEqDiff,Nat.reduceAdd,Nat.reduceMul,Nat.reduceSub,Nat.reduceLeDiff,Nat.reduceBEq,Int.reduceToNat,Int.reduceLE,Int.reduceLT,Int.reduceEq,Int.reduceNe,di]
 refine calls_of s_loadErr ?_; simp only [ruI,ssI,sbI,spI,swI,scI,stI,srI,saI,snI,res286,b286k0,b286k1,b286k2,b286k3, ↓reduceIte,reduceCtorEq,Nat.reduceEqDiff,Nat.reduceAdd,Nat.reduceMul,Nat.reduceSub,Nat.reduceLeDiff,Nat.reduceBEq,Int.reduceToNat,Int.reduceLE,Int.reduceLT,Int.reduceEq,Int.reduceNe,di]
 refine calls_of s_unless ?_; simp only [ruI,ssI,sbI,spI,swI,scI,stI,srI,saI,snI,res286,b286k0,b286k1,b286k2,b286k3, ↓reduceIte,reduceCtorEq,Nat.reduceEqDiff,Nat.reduceAdd,Nat.reduceMul,Nat.reduceSub,Nat.reduceLeDiff,Nat.reduceBEq,Int.reduceToNat,Int.reduceLE,Int.reduceLT,Int.reduceEq,Int.reduceNe,di]
 refine calls_of (s_first (l:=[loadErr p.load,if (p.ch.length:Int)≤4 then 0 else 8]) (by simp)) ?_; simp only [ruI,ssI,sbI,spI,swI,scI,stI,srI,saI,snI,res286,b286k0,b286k1,b286k2,b286k3, ↓reduceIte,reduceCtorEq,Nat.reduceEqDiff,Nat.reduceAdd,Nat.reduceMul,Nat.reduceSub,Nat.reduceLeDiff,Nat.reduceBEq,Int.reduceToNat,Int.reduceLE,Int.reduceLT,Int.reduceEq,Int.reduceNe,di]
 rw [firstNZ_two]
 have e4:(if (p.ch.length:Int)≤4 then (0:Int) else 8)=lenE p.ch.length:=by
  unfold lenE
  by_cases h:p.ch.length≤4
  ·rw [if_pos h,if_pos (by omega)]
  ·rw [if_neg h,if_neg (by omega)]
 rw [e4]
 split
 ·rename_i h0
  refine loop_keep (α:=Nat) rfl (fun i=>p.ch.length - i) (fun i=>i≤p.ch.length∧scanC p.ch 0=scanC (p.ch.drop i) i)
   (fun i=>[(1,.ref 1 0),(22,.imm (snI p.ch)),(23,.imm (.int .i64 p.ch.length)),(24,.imm (.int .i64 i))]) (fun _=>[(1,.box [.imm (.int .i64 p.load),.imm (snI p.ch),.imm (.int .i64 p.wait),.imm (.int .i64 p.ticks)])]) 0 ⟨Nat.zero_le _,rfl⟩ (by simp only [ruI,ssI,sbI,spI,swI,scI,stI,srI,saI,snI, ↓reduceIte,reduceCtorEq,Nat.reduceEqDiff,Nat.reduceAdd,Nat.reduceMul,Nat.reduceSub,Nat.reduceLeDiff,Nat.reduceBEq,Int.reduceToNat,Int.reduceLE,Int.reduceLT,Int.reduceEq,Int.reduceNe,di] <;> rfl) ?_
  intro i ⟨hi,he⟩ ih
  simp only [res286,b286k0,b286k1,b286k2,b286k3,ruI,ssI,sbI,spI,swI,scI,stI,srI,saI,snI, ↓reduceIte,reduceCtorEq,Nat.reduceEqDiff,Nat.reduceAdd,Nat.reduceMul,Nat.reduceSub,Nat.reduceLeDiff,Nat.reduceBEq,Int.reduceToNat,Int.reduceLE,Int.reduceLT,Int.reduceEq,Int.reduceNe,di]
  split
  ·rename_i h
   have hlt:i<p.ch.length:=by omega
   rw [getD_drop hlt] at he
   generalize p.ch.getD i 0=x at he
   repeat (refine And.intro (by omega) ?_)
   refine calls_of s_within ?_; simp only [ruI,ssI,sbI,spI,swI,scI,stI,srI,saI,snI,res286,b286k0,b286k1,b286k2,b286k3, ↓reduceIte,reduceCtorEq,Nat.reduceEqDiff,Nat.reduceAdd,Nat.reduceMul,Nat.reduceSub,Nat.reduceLeDiff,Nat.reduceBEq,Int.reduceToNat,Int.reduceLE,Int.reduceLT,Int.reduceEq,Int.reduceNe,di]
   refine calls_of s_unless ?_; simp only [ruI,ssI,sbI,spI,swI,scI,stI,srI,saI,snI,res286,b286k0,b286k1,b286k2,b286k3, ↓reduceIte,reduceCtorEq,Nat.reduceEqDiff,Nat.reduceAdd,Nat.reduceMul,Nat.reduceSub,Nat.reduceLeDiff,Nat.reduceBEq,Int.reduceToNat,Int.reduceLE,Int.reduceLT,Int.reduceEq,Int.reduceNe,di]
   refine calls_of s_unless ?_; simp only [ruI,ssI,sbI,spI,swI,scI,stI,srI,saI,snI,res286,b286k0,b286k1,b286k2,b286k3, ↓reduceIte,reduceCtorEq,Nat.reduceEqDiff,Nat.reduceAdd,Nat.reduceMul,Nat.reduceSub,Nat.reduceLeDiff,Nat.reduceBEq,Int.reduceToNat,Int.reduceLE,Int.reduceLT,Int.reduceEq,Int.reduceNe,di]
   refine calls_of (s_first (l:=[if Wi x (-1000) 1000 then 0 else 2,if x ≠ 0 then 0 else 11]) (by simp)) ?_; simp only [ruI,ssI,sbI,spI,swI,scI,stI,srI,saI,snI,res286,b286k0,b286k1,b286k2,b286k3, ↓reduceIte,reduceCtorEq,Nat.reduceEqDiff,Nat.reduceAdd,Nat.reduceMul,Nat.reduceSub,Nat.reduceLeDiff,Nat.reduceBEq,Int.reduceToNat,Int.reduceLE,Int.reduceLT,Int.reduceEq,Int.reduceNe,di]
   rw [firstNZ_two]
   show (if changeErr x=0 then _ else _)
   rw [scanC_cons] at he
   split
   ·rename_i h2
    rw [if_pos h2] at he
    rw [wrap64 (by omega) (by omega)]
    refine ih (i+1) _ _ (by omega) ⟨by omega,he⟩ (by simp only [ruI,ssI,sbI,spI,swI,scI,stI,srI,saI,snI, ↓reduceIte,reduceCtorEq,Nat.reduceEqDiff,Nat.reduceAdd,Nat.reduceMul,Nat.reduceSub,Nat.reduceLeDiff,Nat.reduceBEq,Int.reduceToNat,Int.reduceLE,Int.reduceLT,Int.reduceEq,Int.reduceNe,di] <;> rfl)
   ·rename_i h2
    rw [if_neg h2] at he
    have hp:planE p=((i:Int),changeErr x):=by unfold planE; rw [if_pos h0,he]
    rw [hp]; rfl
  ·rename_i h
   have:i=p.ch.length:=by omega
   subst this
   simp only [List.drop_length,scanC] at he
   have hp:planE p=(0,if Wi p.wait 1 20∧Wi p.ticks 1 200 then 0 else 2):=by unfold planE; rw [if_pos h0,he]
   rw [hp]
   refine calls_of s_within ?_; simp only [ruI,ssI,sbI,spI,swI,scI,stI,srI,saI,snI,res286,b286k0,b286k1,b286k2,b286k3, ↓reduceIte,reduceCtorEq,Nat.reduceEqDiff,Nat.reduceAdd,Nat.reduceMul,Nat.reduceSub,Nat.reduceLeDiff,Nat.reduceBEq,Int.reduceToNat,Int.reduceLE,Int.reduceLT,Int.reduceEq,Int.reduceNe,di]
   split
   ·rename_i h1
    refine calls_of s_within ?_; simp only [ruI,ssI,sbI,spI,swI,scI,stI,srI,saI,snI,res286,b286k0,b286k1,b286k2,b286k3, ↓reduceIte,reduceCtorEq,Nat.reduceEqDiff,Nat.reduceAdd,Nat.reduceMul,Nat.reduceSub,Nat.reduceLeDiff,Nat.reduceBEq,Int.reduceToNat,Int.reduceLE,Int.reduceLT,Int.reduceEq,Int.reduceNe,di]
    refine calls_of s_unless ?_; simp only [ruI,ssI,sbI,spI,swI,scI,stI,srI,saI,snI,res286,b286k0,b286k1,b286k2,b286k3, ↓reduceIte,reduceCtorEq,Nat.reduceEqDiff,Nat.reduceAdd,Nat.reduceMul,Nat.reduceSub,Nat.reduceLeDiff,Nat.reduceBEq,Int.reduceToNat,Int.reduceLE,Int.reduceLT,Int.reduceEq,Int.reduceNe,di]
    simp [h1]
   ·rename_i h1
    refine calls_of s_unless ?_; simp only [ruI,ssI,sbI,spI,swI,scI,stI,srI,saI,snI,res286,b286k0,b286k1,b286k2,b286k3, ↓reduceIte,reduceCtorEq,Nat.reduceEqDiff,Nat.reduceAdd,Nat.reduceMul,Nat.reduceSub,Nat.reduceLeDiff,Nat.reduceBEq,Int.reduceToNat,Int.reduceLE,Int.reduceLT,Int.reduceEq,Int.reduceNe,di]
    rw [if_neg (fun k=>h1 k.1)]
 ·rename_i h0
  have hp:planE p=(0,fstE (loadErr p.load) (lenE p.ch.length)):=by unfold planE; rw [if_neg h0]
  rw [hp]
def planEr (r:Ru) (p:Pl):Int × Int:=if rulesErr r=0 then planE p else (0,rulesErr r)
theorem planEr_zero {r:Ru} {p:Pl}:(planEr r p).2=0↔Sg.Good r∧PlanOk p:=by
 unfold planEr
 by_cases h:rulesErr r=0
 ·rw [if_pos h,planE_zero,← rules_ok]; simp [h]
 ·rw [if_neg h,← rules_ok]; simp [h]
theorem s_CheckPlan {r:Ru} {p:Pl} (hl:p.ch.length≤1000000000):Contract Tryz.prog 232 [ruI r,spI p] (.tup [.int .i64 (planEr r p).1,.int .i64 (planEr r p).2]):=by
 refine contract_run Tryz.func232 k232 rfl ?_
 simp only [body232,b232,res232,b232k0,ruI,ssI,sbI,spI,swI,scI,stI,srI,saI,snI, ↓reduceIte,reduceCtorEq,Nat.reduceEqDiff,Nat.reduceAdd,Nat.reduceMul,Nat.reduceSub,Nat.reduceLeDiff,Nat.reduceBEq,Int.reduceToNat,Int.reduceLE,Int.reduceLT,Int.reduceEq,Int.reduceNe,di]
 refine calls_of s_CheckRules ?_; simp only [ruI,ssI,sbI,spI,swI,scI,stI,srI,saI,snI,res232,b232k0, ↓reduceIte,reduceCtorEq,Nat.reduceEqDiff,Nat.reduceAdd,Nat.reduceMul,Nat.reduceSub,Nat.reduceLeDiff,Nat.reduceBEq,Int.reduceToNat,Int.reduceLE,Int.reduceLT,Int.reduceEq,Int.reduceNe,di]
 unfold planEr
 split
 ·rename_i h
  refine calls_of (s_planErr hl) ?_; simp only [ruI,ssI,sbI,spI,swI,scI,stI,srI,saI,snI,res232,b232k0, ↓reduceIte,reduceCtorEq,Nat.reduceEqDiff,Nat.reduceAdd,Nat.reduceMul,Nat.reduceSub,Nat.reduceLeDiff,Nat.reduceBEq,Int.reduceToNat,Int.reduceLE,Int.reduceLT,Int.reduceEq,Int.reduceNe,di]
 ·rfl
theorem s_open {r:Ru} {p:Pl} (hl:p.ch.length≤1000000000):Contract Tryz.prog 161 [ruI r,spI p] (.tup [saI (r,p),.int .i64 (planEr r p).2]):=by
 refine contract_run Tryz.func161 k161 rfl ?_
 simp only [body161,b161,res161,ruI,ssI,sbI,spI,swI,scI,stI,srI,saI,snI, ↓reduceIte,reduceCtorEq,Nat.reduceEqDiff,Nat.reduceAdd,Nat.reduceMul,Nat.reduceSub,Nat.reduceLeDiff,Nat.reduceBEq,Int.reduceToNat,Int.reduceLE,Int.reduceLT,Int.reduceEq,Int.reduceNe,di]
 refine calls_of (s_CheckPlan hl) ?_; simp only [ruI,ssI,sbI,spI,swI,scI,stI,srI,saI,snI,res161, ↓reduceIte,reduceCtorEq,Nat.reduceEqDiff,Nat.reduceAdd,Nat.reduceMul,Nat.reduceSub,Nat.reduceLeDiff,Nat.reduceBEq,Int.reduceToNat,Int.reduceLE,Int.reduceLT,Int.reduceEq,Int.reduceNe,di]
def nth (ch:List Int) (i:Int):Int:=ch.getD i.toNat 0
def permL (ch:List Int):Int→List Int→Bool
 | _,[]=>true
 | load,i :: r=>decide (Wi (load+nth ch i) 0 1000) && permL ch (load+nth ch i) r
theorem permL_cons {ch:List Int} {load i:Int} {r:List Int}:permL ch load (i :: r)=(decide (Wi (load+nth ch i) 0 1000) && permL ch (load+nth ch i) r):=rfl
theorem nth_bd {p:Pl} (hp:PlanOk p) (i:Int) : -1000≤nth p.ch i∧nth p.ch i≤1000:=by
 unfold nth
 rw [List.getD_eq_getElem?_getD]
 cases h:p.ch[i.toNat]? with
 | none=>simp
 | some x=>exact (hp.ch x (List.mem_of_getElem? h)).1
def Idx (p:Pl) (o:List Int):Prop:=o.length≤1000000000∧∀ i ∈ o,0≤i∧i<p.ch.length
theorem s_isPermitted {r:Ru} {p:Pl} {o:List Int} (hp:PlanOk p) (ho:Idx p o):Contract Tryz.prog 235 [saI (r,p),snI o] (.bool (permL p.ch p.load o)):=by
 have hpl:=hp.load
 have hol:=ho.1
 refine contract_run Tryz.func235 k235 rfl ?_
 simp only [body235,b235,res235,b235k0,b235k1,b235k2,ruI,ssI,sbI,spI,swI,scI,stI,srI,saI,snI, ↓reduceIte,reduceCtorEq,Nat.reduceEqDiff,Nat.reduceAdd,Nat.reduceMul,Nat.reduceSub,Nat.reduceLeDiff,Nat.reduceBEq,Int.reduceToNat,Int.reduceLE,Int.reduceLT,Int.reduceEq,Int.reduceNe,di]
 refine loop_keep (α:=Nat × Int) rfl (fun q=>o.length - q.1) (fun q=>q.1≤o.length∧(0≤q.2∧q.2≤1000)∧permL p.ch p.load o=permL p.ch q.2 (o.drop q.1))
  (fun q=>[(2,.ref 2 0),(5,.imm (.int .i64 q.2)),(11,.imm (snI o)),(12,.imm (.int .i64 o.length)),(13,.imm (.int .i64 q.1))])
  (fun _=>[(2,.box [.imm (.int .i64 r.I),.imm (.int .i64 r.A),.imm (.int .i64 r.lo),.imm (.int .i64 r.hi),.imm (.int .i64 r.T),.imm (.int .i64 p.load),.imm (snI p.ch),.imm (.int .i64 p.wait),.imm (.int .i64 p.ticks)])]) (0,p.load) ⟨Nat.zero_le _,hp.load,rfl⟩ (by simp only [ruI,ssI,sbI,spI,swI,scI,stI,srI,saI,snI, ↓reduceIte,reduceCtorEq,Nat.reduceEqDiff,Nat.reduceAdd,Nat.reduceMul,Nat.reduceSub,Nat.reduceLeDiff,Nat.reduceBEq,Int.reduceToNat,Int.reduceLE,Int.reduceLT,Int.reduceEq,Int.reduceNe,di] <;> rfl) ?_
 rintro ⟨i,load⟩ ⟨hi,hb,he⟩ ih
 dsimp only at hi hb he ⊢
 simp only [res235,b235k0,b235k1,b235k2,ruI,ssI,sbI,spI,swI,scI,stI,srI,saI,snI, ↓reduceIte,reduceCtorEq,Nat.reduceEqDiff,Nat.reduceAdd,Nat.reduceMul,Nat.reduceSub,Nat.reduceLeDiff,Nat.reduceBEq,Int.reduceToNat,Int.reduceLE,Int.reduceLT,Int.reduceEq,Int.reduceNe,di]
 split
 ·rename_i h
  have hlt:i<o.length:=by omega
  have hx:=ho.2 _ (getD_mem hlt)
  rw [getD_drop hlt] at he
  generalize o.getD i 0=x at hx he
  have hn:=nth_bd hp x
  repeat (refine And.intro (by omega) ?_)
  rw [show p.ch.getD x.toNat 0=nth p.ch x from rfl]
  rw [show IntKind.wrap .i64 (load+nth p.ch x)=load+nth p.ch x from wrap64 (by omega) (by omega)]
  refine calls_of s_isLoad ?_; simp only [ruI,ssI,sbI,spI,swI,scI,stI,srI,saI,snI,res235,b235k0,b235k1,b235k2, ↓reduceIte,reduceCtorEq,Nat.reduceEqDiff,Nat.reduceAdd,Nat.reduceMul,Nat.reduceSub,Nat.reduceLeDiff,Nat.reduceBEq,Int.reduceToNat,Int.reduceLE,Int.reduceLT,Int.reduceEq,Int.reduceNe,di]
  rw [permL_cons] at he
  by_cases h2:Wi (load+nth p.ch x) 0 1000
  ·simp only [h2,decide_true,Bool.true_and] at he
   simp only [h2,decide_true,ruI,ssI,sbI,spI,swI,scI,stI,srI,saI,snI, ↓reduceIte,reduceCtorEq,Nat.reduceEqDiff,Nat.reduceAdd,Nat.reduceMul,Nat.reduceSub,Nat.reduceLeDiff,Nat.reduceBEq,Int.reduceToNat,Int.reduceLE,Int.reduceLT,Int.reduceEq,Int.reduceNe,di]
   rw [wrap64 (by omega) (by omega)]
   refine ih (i+1,load+nth p.ch x) _ _ (by dsimp only; omega) ⟨by dsimp only; omega,h2,he⟩ (by simp only [ruI,ssI,sbI,spI,swI,scI,stI,srI,saI,snI, ↓reduceIte,reduceCtorEq,Nat.reduceEqDiff,Nat.reduceAdd,Nat.reduceMul,Nat.reduceSub,Nat.reduceLeDiff,Nat.reduceBEq,Int.reduceToNat,Int.reduceLE,Int.reduceLT,Int.reduceEq,Int.reduceNe,di] <;> rfl)
  ·simp only [h2,decide_false,Bool.false_and] at he
   simp only [h2,decide_false,ruI,ssI,sbI,spI,swI,scI,stI,srI,saI,snI, ↓reduceIte,reduceCtorEq,Nat.reduceEqDiff,Nat.reduceAdd,Nat.reduceMul,Nat.reduceSub,Nat.reduceLeDiff,Nat.reduceBEq,Int.reduceToNat,Int.reduceLE,Int.reduceLT,Int.reduceEq,Int.reduceNe,di]
   rw [he]
 ·rename_i h
  have:i=o.length:=by omega
  subst this
  rw [he]
  simp [permL]
def loadsF (p:Pl) (o:List Int):Nat→Int→Int→List Int
 | 0,_,_=>[]
 | m+1,t,load=>(if t.tmod p.wait=0∧t.tdiv p.wait<o.length then load+nth p.ch (nth o (t.tdiv p.wait)) else load) ::
   loadsF p o m (t+1) (if t.tmod p.wait=0∧t.tdiv p.wait<o.length then load+nth p.ch (nth o (t.tdiv p.wait)) else load)
def loadsP (p:Pl) (o:List Int):List Int:=loadsF p o p.ticks.toNat 0 p.load
theorem loadsF_length {p:Pl} {o:List Int}:∀ (m:Nat) (t load:Int),(loadsF p o m t load).length=m
 | 0,_,_=>rfl
 | m+1,t,load=>by simp [loadsF,loadsF_length m]
theorem s_loads {r:Ru} {p:Pl} {o:List Int} (hp:PlanOk p) (ho:Idx p o):Contract Tryz.prog 167 [saI (r,p),snI o] (snI (loadsP p o)):=by
 have hpl:=hp.load
 have hw:=hp.wait
 have ht:=hp.ticks
 have hol:=ho.1
 refine contract_run Tryz.func167 k167 rfl ?_
 simp only [body167,b167,res167,b167k0,b167k1,b167k2,b167k3,ruI,ssI,sbI,spI,swI,scI,stI,srI,saI,snI, ↓reduceIte,reduceCtorEq,Nat.reduceEqDiff,Nat.reduceAdd,Nat.reduceMul,Nat.reduceSub,Nat.reduceLeDiff,Nat.reduceBEq,Int.reduceToNat,Int.reduceLE,Int.reduceLT,Int.reduceEq,Int.reduceNe,di]
 refine loop_keep (α:=Nat × Int × List Int) rfl (fun q=>p.ticks.toNat - q.1) (fun q=>(q.1:Int)≤p.ticks∧(-1000 * (q.1:Int)≤q.2.1∧q.2.1≤1000+1000 * (q.1:Int))∧q.2.2.length=q.1∧q.2.2 ++ loadsF p o (p.ticks.toNat - q.1) q.1 q.2.1=loadsP p o)
  (fun q=>[(1,.imm (snI o)),(2,.ref 2 0),(5,.imm (.int .i64 q.2.1)),(6,.own 6),(14,.imm (.int .i64 p.ticks)),(15,.imm (.int .i64 q.1))])
  (fun q=>[(2,.box [.imm (.int .i64 r.I),.imm (.int .i64 r.A),.imm (.int .i64 r.lo),.imm (.int .i64 r.hi),.imm (.int .i64 r.T),.imm (.int .i64 p.load),.imm (snI p.ch),.imm (.int .i64 p.wait),.imm (.int .i64 p.ticks)]),(6,.tok 1 (q.2.2.map (IV.int .i64)))]) (0,p.load,[]) ⟨by simp; omega,by simp; omega,rfl,by simp [loadsP]⟩ (by simp only [ruI,ssI,sbI,spI,swI,scI,stI,srI,saI,snI, ↓reduceIte,reduceCtorEq,Nat.reduceEqDiff,Nat.reduceAdd,Nat.reduceMul,Nat.reduceSub,Nat.reduceLeDiff,Nat.reduceBEq,Int.reduceToNat,Int.reduceLE,Int.reduceLT,Int.reduceEq,Int.reduceNe,di] <;> rfl) ?_
 rintro ⟨i,load,out⟩ ⟨hi,hb,hlen,he⟩ ih
 dsimp only at hi hb hlen he ⊢
 simp only [res167,b167k0,b167k1,b167k2,b167k3,ruI,ssI,sbI,spI,swI,scI,stI,srI,saI,snI, ↓reduceIte,reduceCtorEq,Nat.reduceEqDiff,Nat.reduceAdd,Nat.reduceMul,Nat.reduceSub,Nat.reduceLeDiff,Nat.reduceBEq,Int.reduceToNat,Int.reduceLE,Int.reduceLT,Int.reduceEq,Int.reduceNe,di]
 split
 ·rename_i h
  have hm:p.ticks.toNat - i=(p.ticks.toNat - (i+1))+1:=by omega
  rw [hm] at he
  unfold loadsF at he
  have hj : 0≤(i:Int).tdiv p.wait:=Int.tdiv_nonneg (by omega) (by omega)
  have hj2:(i:Int).tdiv p.wait≤1000:=by
   have:=Int.natAbs_tdiv_le_natAbs (i:Int) p.wait
   omega
  generalize hjj:(i:Int).tdiv p.wait=j at hj hj2 he
  repeat (refine And.intro (by omega) ?_)
  rw [show IntKind.wrap .i64 j=j from wrap64 (by omega) (by omega)]
  by_cases hc:(i:Int).tmod p.wait=0∧j<(o.length:Int)
  ·rw [if_pos hc]
   rw [if_pos hc] at he
   have hjm:o.getD j.toNat 0 ∈ o:=getD_mem (by omega)
   have hx:=ho.2 _ hjm
   rw [show nth o j=o.getD j.toNat 0 from rfl] at he
   generalize o.getD j.toNat 0=x at hx he
   have hn:=nth_bd hp x
   rw [show p.ch.getD x.toNat 0=nth p.ch x from rfl]
   repeat (refine And.intro (by omega) ?_)
   rw [show IntKind.wrap .i64 (load+nth p.ch x)=load+nth p.ch x from wrap64 (by omega) (by omega)]
   rw [wrap64 (by omega) (by omega)]
   refine ih (i+1,load+nth p.ch x,out ++ [load+nth p.ch x]) _ _ (by dsimp only; omega) ⟨by dsimp only; omega,by dsimp only; omega,by simp [hlen],?_⟩ (by simp only [ruI,ssI,sbI,spI,swI,scI,stI,srI,saI,snI, ↓reduceIte,reduceCtorEq,Nat.reduceEqDiff,Nat.reduceAdd,Nat.reduceMul,Nat.reduceSub,Nat.reduceLeDiff,Nat.reduceBEq,Int.reduceToNat,Int.reduceLE,Int.reduceLT,Int.reduceEq,Int.reduceNe,di] <;> rfl)
   dsimp only
   rw [← he]
   simp
  ·rw [if_neg hc]
   rw [if_neg hc] at he
   repeat (refine And.intro (by omega) ?_)
   rw [wrap64 (by omega) (by omega)]
   refine ih (i+1,load,out ++ [load]) _ _ (by dsimp only; omega) ⟨by dsimp only; omega,by dsimp only; omega,by simp [hlen],?_⟩ (by simp only [ruI,ssI,sbI,spI,swI,scI,stI,srI,saI,snI, ↓reduceIte,reduceCtorEq,Nat.reduceEqDiff,Nat.reduceAdd,Nat.reduceMul,Nat.reduceSub,Nat.reduceLeDiff,Nat.reduceBEq,Int.reduceToNat,Int.reduceLE,Int.reduceLT,Int.reduceEq,Int.reduceNe,di] <;> rfl)
   dsimp only
   rw [← he]
   simp
 ·rename_i h
  rw [show p.ticks.toNat - i=0 by omega] at he
  simp only [loadsF,List.append_nil] at he
  rw [he]
def idxErr (p:Pl) (o:List Int) (i:Nat):Int:=fstE (if Wi (o.getD i 0) 0 ((p.ch.length:Int) - 1) then 0 else 6) (if o.getD i 0 ∈ o.take i then 23 else 0)
def scanO (p:Pl) (o:List Int):Nat→Nat→Int
 | 0,_=>0
 | m+1,i=>if idxErr p o i=0 then scanO p o m (i+1) else idxErr p o i
def orderE (p:Pl) (o:List Int):Int :=
 if o.length ≠ p.ch.length then 10 else if scanO p o o.length 0=0 then (if permL p.ch p.load o then 0 else 24) else scanO p o o.length 0
theorem scanO_succ {p:Pl} {o:List Int} {m i:Nat}:scanO p o (m+1) i=if idxErr p o i=0 then scanO p o m (i+1) else idxErr p o i:=rfl
theorem scanO_zero {p:Pl} {o:List Int}:∀ {m i:Nat},scanO p o m i=0↔∀ k,i≤k→k<i+m→idxErr p o k=0
 | 0,i=>by simp [scanO]; intro k h1 h2; omega
 | m+1,i=>by
  have ih:=scanO_zero (p:=p) (o:=o) (m:=m) (i:=i+1)
  unfold scanO
  by_cases h:idxErr p o i=0
  ·rw [if_pos h,ih]
   constructor
   ·intro k j h1 h2
    by_cases e:j=i
    ·subst e; exact h
    ·exact k j (by omega) (by omega)
   ·intro k j h1 h2; exact k j (by omega) (by omega)
  ·rw [if_neg h]
   constructor
   ·intro k; exact (h k).elim
   ·intro k; exact (h (k i (by omega) (by omega))).elim
theorem orderE_idx {p:Pl} {o:List Int} (hp:PlanOk p) (hl:o.length=p.ch.length) (h:scanO p o o.length 0=0):Idx p o:=by
 refine ⟨by have:=hp.len; omega,fun x hx => ?_⟩
 obtain ⟨i,hi⟩:=List.getElem?_of_mem hx
 have hlt:=(List.getElem?_eq_some_iff.1 hi).1
 have h1:=scanO_zero.1 h i (by omega) (by omega)
 unfold idxErr at h1
 rw [fstE_zero] at h1
 have hg:o.getD i 0=x:=by rw [List.getD_eq_getElem?_getD,hi]; rfl
 rw [hg] at h1
 by_cases hw:Wi x 0 ((p.ch.length:Int) - 1)
 ·unfold Wi at hw; omega
 ·rw [if_neg hw] at h1; cases h1.1
theorem s_orderErr {r:Ru} {p:Pl} {o:List Int} (hp:PlanOk p):Contract Tryz.prog 166 [saI (r,p),snI o] (.int .i64 (orderE p o)):=by
 have hlen:=hp.len
 refine contract_run Tryz.func166 k166 rfl ?_
 simp only [body166,b166,res166,b166k0,b166k1,b166k2,b166k3,ruI,ssI,sbI,spI,swI,scI,stI,srI,saI,snI, ↓reduceIte,reduceCtorEq,Nat.reduceEqDiff,Nat.reduceAdd,Nat.reduceMul,Nat.reduceSub,Nat.reduceLeDiff,Nat.reduceBEq,Int.reduceToNat,Int.reduceLE,Int.reduceLT,Int.reduceEq,Int.reduceNe,di]
 split
 rotate_left
 ·rename_i h
  unfold orderE
  rw [if_pos (by omega)]
 ·rename_i h
  have hl:o.length=p.ch.length:=by omega
  have hoe:orderE p o=if scanO p o o.length 0=0 then (if permL p.ch p.load o then 0 else 24) else scanO p o o.length 0:=by unfold orderE; rw [if_neg (by omega)]
  refine loop_keep (α:=Nat) rfl (fun i=>o.length - i) (fun i=>i≤o.length∧scanO p o o.length 0=scanO p o (o.length - i) i)
   (fun i=>[(1,.imm (snI o)),(2,.ref 2 0),(15,.imm (snI o)),(16,.imm (.int .i64 o.length)),(17,.imm (.int .i64 i))])
   (fun _=>[(2,.box [.imm (.int .i64 r.I),.imm (.int .i64 r.A),.imm (.int .i64 r.lo),.imm (.int .i64 r.hi),.imm (.int .i64 r.T),.imm (.int .i64 p.load),.imm (snI p.ch),.imm (.int .i64 p.wait),.imm (.int .i64 p.ticks)])]) 0 ⟨Nat.zero_le _,rfl⟩ (by simp only [ruI,ssI,sbI,spI,swI,scI,stI,srI,saI,snI, ↓reduceIte,reduceCtorEq,Nat.reduceEqDiff,Nat.reduceAdd,Nat.reduceMul,Nat.reduceSub,Nat.reduceLeDiff,Nat.reduceBEq,Int.reduceToNat,Int.reduceLE,Int.reduceLT,Int.reduceEq,Int.reduceNe,di] <;> rfl) ?_
  intro i ⟨hi,he⟩ ih
  simp only [res166,b166k0,b166k1,b166k2,b166k3,ruI,ssI,sbI,spI,swI,scI,stI,srI,saI,snI, ↓reduceIte,reduceCtorEq,Nat.reduceEqDiff,Nat.reduceAdd,Nat.reduceMul,Nat.reduceSub,Nat.reduceLeDiff,Nat.reduceBEq,Int.reduceToNat,Int.reduceLE,Int.reduceLT,Int.reduceEq,Int.reduceNe,di]
  split
  ·rename_i h
   have hlt:i<o.length:=by omega
   rw [show o.length - i=(o.length - (i+1))+1 by omega] at he
   rw [scanO_succ] at he
   repeat (refine And.intro (by omega) ?_)
   simp only [show IntKind.wrap .i64 ((p.ch.length:Int) - 1)=(p.ch.length:Int) - 1 from wrap64 (by omega) (by omega)]
   refine calls_of s_within ?_; simp only [ruI,ssI,sbI,spI,swI,scI,stI,srI,saI,snI,res166,b166k0,b166k1,b166k2,b166k3, ↓reduceIte,reduceCtorEq,Nat.reduceEqDiff,Nat.reduceAdd,Nat.reduceMul,Nat.reduceSub,Nat.reduceLeDiff,Nat.reduceBEq,Int.reduceToNat,Int.reduceLE,Int.reduceLT,Int.reduceEq,Int.reduceNe,di]
   refine calls_of s_unless ?_; simp only [ruI,ssI,sbI,spI,swI,scI,stI,srI,saI,snI,res166,b166k0,b166k1,b166k2,b166k3, ↓reduceIte,reduceCtorEq,Nat.reduceEqDiff,Nat.reduceAdd,Nat.reduceMul,Nat.reduceSub,Nat.reduceLeDiff,Nat.reduceBEq,Int.reduceToNat,Int.reduceLE,Int.reduceLT,Int.reduceEq,Int.reduceNe,di]
   repeat (refine And.intro (by omega) ?_)
   refine calls_of (s_Contains (by rw [List.length_take]; omega)) ?_; simp only [ruI,ssI,sbI,spI,swI,scI,stI,srI,saI,snI,res166,b166k0,b166k1,b166k2,b166k3, ↓reduceIte,reduceCtorEq,Nat.reduceEqDiff,Nat.reduceAdd,Nat.reduceMul,Nat.reduceSub,Nat.reduceLeDiff,Nat.reduceBEq,Int.reduceToNat,Int.reduceLE,Int.reduceLT,Int.reduceEq,Int.reduceNe,di]
   refine calls_of s_unless ?_; simp only [ruI,ssI,sbI,spI,swI,scI,stI,srI,saI,snI,res166,b166k0,b166k1,b166k2,b166k3, ↓reduceIte,reduceCtorEq,Nat.reduceEqDiff,Nat.reduceAdd,Nat.reduceMul,Nat.reduceSub,Nat.reduceLeDiff,Nat.reduceBEq,Int.reduceToNat,Int.reduceLE,Int.reduceLT,Int.reduceEq,Int.reduceNe,di]
   have e23:(if o.getD i 0 ∉ o.take i then (0:Int) else 23)=if o.getD i 0 ∈ o.take i then 23 else 0:=by
    by_cases h:o.getD i 0 ∈ o.take i <;> simp [h]
   refine calls_of (s_first (l:=[if Wi (o.getD i 0) 0 ((p.ch.length:Int) - 1) then 0 else 6,if o.getD i 0 ∉ o.take i then 0 else 23]) (by simp)) ?_; simp only [ruI,ssI,sbI,spI,swI,scI,stI,srI,saI,snI,res166,b166k0,b166k1,b166k2,b166k3, ↓reduceIte,reduceCtorEq,Nat.reduceEqDiff,Nat.reduceAdd,Nat.reduceMul,Nat.reduceSub,Nat.reduceLeDiff,Nat.reduceBEq,Int.reduceToNat,Int.reduceLE,Int.reduceLT,Int.reduceEq,Int.reduceNe,di]
   rw [firstNZ_two,e23]
   show (if idxErr p o i=0 then _ else _)
   split
   ·rename_i h2
    rw [if_pos h2] at he
    rw [wrap64 (by omega) (by omega)]
    exact ih (i+1) _ _ (by omega) ⟨by omega,he⟩ (by simp only [ruI,ssI,sbI,spI,swI,scI,stI,srI,saI,snI, ↓reduceIte,reduceCtorEq,Nat.reduceEqDiff,Nat.reduceAdd,Nat.reduceMul,Nat.reduceSub,Nat.reduceLeDiff,Nat.reduceBEq,Int.reduceToNat,Int.reduceLE,Int.reduceLT,Int.reduceEq,Int.reduceNe,di] <;> rfl)
   ·rename_i h2
    rw [if_neg h2] at he
    have ho2:orderE p o=idxErr p o i:=by rw [hoe,he,if_neg h2]
    rw [ho2]
    rfl
  ·rename_i h
   have hie:i=o.length:=by omega
   subst hie
   rw [show o.length - o.length=0 by omega] at he
   simp only [scanO] at he
   rw [hoe,if_pos he]
   have hix:=orderE_idx hp hl he
   refine calls_of (s_isPermitted hp hix) ?_; simp only [ruI,ssI,sbI,spI,swI,scI,stI,srI,saI,snI,res166,b166k0,b166k1,b166k2,b166k3, ↓reduceIte,reduceCtorEq,Nat.reduceEqDiff,Nat.reduceAdd,Nat.reduceMul,Nat.reduceSub,Nat.reduceLeDiff,Nat.reduceBEq,Int.reduceToNat,Int.reduceLE,Int.reduceLT,Int.reduceEq,Int.reduceNe,di]
   refine calls_of s_unless ?_; simp only [ruI,ssI,sbI,spI,swI,scI,stI,srI,saI,snI,res166,b166k0,b166k1,b166k2,b166k3, ↓reduceIte,reduceCtorEq,Nat.reduceEqDiff,Nat.reduceAdd,Nat.reduceMul,Nat.reduceSub,Nat.reduceLeDiff,Nat.reduceBEq,Int.reduceToNat,Int.reduceLE,Int.reduceLT,Int.reduceEq,Int.reduceNe,di]
def loE (r:Ru) (p:Pl) (o:List Int):Int:=fstE (planEr r p).2 (orderE p o)
theorem orderE_zero {p:Pl} {o:List Int} (h:orderE p o=0):o.length=p.ch.length∧scanO p o o.length 0=0∧permL p.ch p.load o=true:=by
 unfold orderE at h
 split at h
 ·cases h
 ·rename_i h1
  split at h
  ·rename_i h2
   split at h
   ·rename_i h3; exact ⟨by omega,h2,h3⟩
   ·cases h
  ·rename_i h2; exact (h2 h).elim
theorem s_LoadsOf {r:Ru} {p:Pl} {o:List Int} (hl:p.ch.length≤1000000000):Contract Tryz.prog 78 [ruI r,spI p,snI o] (if loE r p o=0 then .tup [snI (loadsP p o),.int .i64 0] else .tup [snI [],.int .i64 (loE r p o)]):=by
 refine contract_run Tryz.func78 k78 rfl ?_
 simp only [body78,b78,res78,b78k0,b78k1,ruI,ssI,sbI,spI,swI,scI,stI,srI,saI,snI, ↓reduceIte,reduceCtorEq,Nat.reduceEqDiff,Nat.reduceAdd,Nat.reduceMul,Nat.reduceSub,Nat.reduceLeDiff,Nat.reduceBEq,Int.reduceToNat,Int.reduceLE,Int.reduceLT,Int.reduceEq,Int.reduceNe,di]
 refine calls_of (s_open hl) ?_; simp only [ruI,ssI,sbI,spI,swI,scI,stI,srI,saI,snI,res78,b78k0,b78k1, ↓reduceIte,reduceCtorEq,Nat.reduceEqDiff,Nat.reduceAdd,Nat.reduceMul,Nat.reduceSub,Nat.reduceLeDiff,Nat.reduceBEq,Int.reduceToNat,Int.reduceLE,Int.reduceLT,Int.reduceEq,Int.reduceNe,di]
 by_cases h:(planEr r p).2=0
 ·obtain ⟨hr,hp⟩:=planEr_zero.1 h
  have he:loE r p o=orderE p o:=by unfold loE fstE; rw [if_pos h]
  simp only [h,ruI,ssI,sbI,spI,swI,scI,stI,srI,saI,snI, ↓reduceIte,reduceCtorEq,Nat.reduceEqDiff,Nat.reduceAdd,Nat.reduceMul,Nat.reduceSub,Nat.reduceLeDiff,Nat.reduceBEq,Int.reduceToNat,Int.reduceLE,Int.reduceLT,Int.reduceEq,Int.reduceNe,di]
  refine calls_of (s_orderErr hp) ?_; simp only [ruI,ssI,sbI,spI,swI,scI,stI,srI,saI,snI,res78,b78k0,b78k1, ↓reduceIte,reduceCtorEq,Nat.reduceEqDiff,Nat.reduceAdd,Nat.reduceMul,Nat.reduceSub,Nat.reduceLeDiff,Nat.reduceBEq,Int.reduceToNat,Int.reduceLE,Int.reduceLT,Int.reduceEq,Int.reduceNe,di]
  rw [he]
  split
  ·rename_i h2
   obtain ⟨h3,h4,h5⟩:=orderE_zero h2
   refine calls_of (s_loads hp (orderE_idx hp h3 h4)) ?_; simp only [ruI,ssI,sbI,spI,swI,scI,stI,srI,saI,snI,res78,b78k0,b78k1, ↓reduceIte,reduceCtorEq,Nat.reduceEqDiff,Nat.reduceAdd,Nat.reduceMul,Nat.reduceSub,Nat.reduceLeDiff,Nat.reduceBEq,Int.reduceToNat,Int.reduceLE,Int.reduceLT,Int.reduceEq,Int.reduceNe,di]
  ·rfl
 ·have he:loE r p o=(planEr r p).2:=by unfold loE fstE; rw [if_neg h]
  simp only [h,ruI,ssI,sbI,spI,swI,scI,stI,srI,saI,snI, ↓reduceIte,reduceCtorEq,Nat.reduceEqDiff,Nat.reduceAdd,Nat.reduceMul,Nat.reduceSub,Nat.reduceLeDiff,Nat.reduceBEq,Int.reduceToNat,Int.reduceLE,Int.reduceLT,Int.reduceEq,Int.reduceNe,di]
  rw [he,if_neg h]
theorem ediv_is {a b q m:Int} (hb : 0<b) (h:a=b * q+m) (h0 : 0≤m) (h1:m<b):a / b=q:=by
 rw [h,Int.add_comm,Int.add_mul_ediv_left _ _ (by omega),Int.ediv_eq_zero_of_lt h0 h1]; omega
theorem loads_ok {p:Pl} {o:List Int} (hp:PlanOk p) (h:permL p.ch p.load o=true):Loads (loadsP p o):=by
 have ht:=hp.ticks
 have hw:=hp.wait
 refine ⟨by unfold loadsP; rw [loadsF_length]; omega,?_⟩

 have key:∀ (m:Nat) (t:Nat) (k:Nat) (load:Int),0≤load∧load≤1000→permL p.ch load (o.drop k)=true→(k≤o.length)→(k<o.length→(k:Int)=((t:Int)+p.wait - 1) / p.wait)→(k=o.length→(o.length:Int)≤((t:Int)+p.wait - 1) / p.wait) →
   ∀ x ∈ loadsF p o m t load,0≤x∧x≤1000:=by
  intro m
  induction m with
  | zero=>intro t k load _ _ _ _ _ x hx; cases hx
  | succ m ih =>
   intro t k load hb hperm hkl hk1 hk2 x hx
   have hw0 : 0<p.wait:=by omega
   have hdm:=Int.emod_add_mul_ediv (t:Int) p.wait
   have hm0:=Int.emod_nonneg (t:Int) (show p.wait ≠ 0 by omega)
   have hm1:=Int.emod_lt_of_pos (t:Int) hw0
   have en:(((t+1:Nat):Int)+p.wait - 1) / p.wait=(t:Int) / p.wait+1:=by
    refine ediv_is hw0 (m:=(t:Int) % p.wait) ?_ hm0 hm1
    rw [Int.mul_add]; push_cast; omega
   have e0:(t:Int) % p.wait=0→((t:Int)+p.wait - 1) / p.wait=(t:Int) / p.wait:=fun h0=>by
    refine ediv_is hw0 (m:=p.wait - 1) ?_ (by omega) (by omega)
    omega
   have e1:(t:Int) % p.wait ≠ 0→((t:Int)+p.wait - 1) / p.wait=(t:Int) / p.wait+1:=fun h0=>by
    refine ediv_is hw0 (m:=(t:Int) % p.wait - 1) ?_ (by omega) (by omega)
    rw [Int.mul_add]; omega
   have hq : 0≤(t:Int) / p.wait:=Int.ediv_nonneg (by omega) (by omega)
   have ht1:((t:Int)+1)=((t+1:Nat):Int):=by push_cast; rfl
   unfold loadsF at hx
   rw [Int.tmod_eq_emod_of_nonneg (by omega),Int.tdiv_eq_ediv_of_nonneg (by omega)] at hx
   by_cases hc:(t:Int) % p.wait=0∧(t:Int) / p.wait<(o.length:Int)
   ·rw [if_pos hc] at hx
    have hkj:(k:Int)=(t:Int) / p.wait:=by
     rw [e0 hc.1] at hk1 hk2
     by_cases hk:k<o.length
     ·exact hk1 hk
     ·have:=hk2 (by omega); omega
    have hkl':k<o.length:=by omega
    rw [getD_drop hkl',permL_cons,Bool.and_eq_true,decide_eq_true_eq] at hperm
    have hn:nth o ((t:Int) / p.wait)=o.getD k 0:=by unfold nth; rw [← hkj]; simp
    rw [hn,ht1] at hx
    rcases List.mem_cons.1 hx with rfl | hx
    ·exact hperm.1
    ·exact ih (t+1) (k+1) _ hperm.1 hperm.2 (by omega) (fun _=>by rw [en]; push_cast; omega) (fun h=>by rw [en]; omega) x hx
   ·rw [if_neg hc,ht1] at hx
    rcases List.mem_cons.1 hx with rfl | hx
    ·exact hb
    ·refine ih (t+1) k load hb hperm hkl (fun hk => ?_) (fun hk => ?_) x hx
     ·rw [en]
      have h1:=hk1 hk
      by_cases h0:(t:Int) % p.wait=0
      ·rw [e0 h0] at h1
       exact absurd ⟨h0,by omega⟩ hc
      ·rw [e1 h0] at h1; exact h1
     ·rw [en]
      have h1:=hk2 hk
      by_cases h0:(t:Int) % p.wait=0
      ·rw [e0 h0] at h1; omega
      ·rw [e1 h0] at h1; exact h1
 refine key p.ticks.toNat 0 0 p.load hp.load h (Nat.zero_le _) (fun _ => ?_) (fun h0 => ?_)
 ·rw [Int.ediv_eq_zero_of_lt (by omega) (by omega)]; rfl
 ·rw [← h0,Int.ediv_eq_zero_of_lt (by omega) (by omega)]; exact Int.le_refl _
end Go.DI

/- Contracts: the highest level of a run; all permitted orders, one by one. No condition. -/
set_option linter.unusedSimpArgs false
namespace Go.DI
open Go.Proofs Go.RowKit Sg
def highL (r:Ru) (s:Sta) (ls:List Int) (k:Int):Int:=maxL (((runL r k s ls).map (·.L)).drop 1) (((runL r k s ls).map (·.L)).getD 0 0)
theorem s_highest {r:Ru} {s:Sta} {ls:List Int} {k:Int} (hr:Sg.Good r) (hs:(-1000000≤s.L∧s.L≤1000000) ∧ -1000≤s.F∧s.F≤1000) (hl:Loads ls) (hk : 0≤k∧k≤100) (h0:ls ≠ []) :
  Contract Tryz.prog 177 [ruI r,ssI s,snI ls,.int .i64 k] (.int .i64 (highL r s ls k)):=by
 have hlen:=runL_length (r:=r) (k:=k) ls s
 have hl1:=hl.1
 refine contract_run Tryz.func177 k177 rfl ?_
 simp only [body177,b177,res177,b177k0,ruI,ssI,sbI,spI,swI,scI,stI,srI,saI,snI, ↓reduceIte,reduceCtorEq,Nat.reduceEqDiff,Nat.reduceAdd,Nat.reduceMul,Nat.reduceSub,Nat.reduceLeDiff,Nat.reduceBEq,Int.reduceToNat,Int.reduceLE,Int.reduceLT,Int.reduceEq,Int.reduceNe,di]
 refine calls_of s_run ?_; simp only [ruI,ssI,sbI,spI,swI,scI,stI,srI,saI,snI,res177,b177k0, ↓reduceIte,reduceCtorEq,Nat.reduceEqDiff,Nat.reduceAdd,Nat.reduceMul,Nat.reduceSub,Nat.reduceLeDiff,Nat.reduceBEq,Int.reduceToNat,Int.reduceLE,Int.reduceLT,Int.reduceEq,Int.reduceNe,di]
 refine range_plain (gf:=246) (first:=[]) (caps:=[.ptr (ssI s),.ptr (.agg [snI ls]),.ptr (ruI r),.ptr (.agg [.int .i64 k])]) ((runL r k s ls).map fun x=>[ssI x]) false rfl rfl (it_run hr hs hl hk) (by simp) rfl (fun n (y:Nat)=>y=n) (fun y=>[(9,.box [.own 1009]),(1009,.tok 1 ((((runL r k s ls).map (·.L)).take y).map (IV.int .i64)))]) 0 rfl (by rw [keepRes_look]; simp only [↓reduceIte,reduceCtorEq,Nat.reduceEqDiff,Nat.reduceAdd,Nat.reduceMul,Nat.reduceSub,Nat.reduceLeDiff,Nat.reduceBEq,Int.reduceToNat,Int.reduceLE,Int.reduceLT,Int.reduceEq,Int.reduceNe,di] <;> rfl) ?_ ?_
 ·rintro n x y hx rfl
  simp only [List.getElem?_map,Option.map_eq_some_iff] at hx
  obtain ⟨q,hq,rfl⟩:=hx
  have hlt:=(List.getElem?_eq_some_iff.1 hq).1
  simp only [b177a0,b177r0,ruI,ssI,sbI,spI,swI,scI,stI,srI,saI,snI, ↓reduceIte,reduceCtorEq,Nat.reduceEqDiff,Nat.reduceAdd,Nat.reduceMul,Nat.reduceSub,Nat.reduceLeDiff,Nat.reduceBEq,Int.reduceToNat,Int.reduceLE,Int.reduceLT,Int.reduceEq,Int.reduceNe,di]
  rw [List.length_take,List.length_map,Nat.min_eq_left (by omega)]
  refine ⟨by omega,by omega,y+1,rfl,?_⟩
  rw [List.take_add_one,List.getElem?_map,hq]
  simp
 ·rintro y _ rfl
  simp only [res177,b177k0,ruI,ssI,sbI,spI,swI,scI,stI,srI,saI,snI, ↓reduceIte,reduceCtorEq,Nat.reduceEqDiff,Nat.reduceAdd,Nat.reduceMul,Nat.reduceSub,Nat.reduceLeDiff,Nat.reduceBEq,Int.reduceToNat,Int.reduceLE,Int.reduceLT,Int.reduceEq,Int.reduceNe,di]
  have hh:List.take (runL r k s ls).length ((runL r k s ls).map (·.L))=(runL r k s ls).map (·.L):=List.take_of_length_le (by simp)
  have hne:(runL r k s ls).map (·.L) ≠ []:=by
   intro h
   rw [List.map_eq_nil_iff] at h
   rw [h] at hlen
   exact h0 (List.length_eq_zero_iff.1 hlen.symm)
  rw [hh]
  refine calls_of (s_Max (l:=(runL r k s ls).map (·.L)) (by simp; omega) hne) ?_; simp only [ruI,ssI,sbI,spI,swI,scI,stI,srI,saI,snI,res177,b177k0, ↓reduceIte,reduceCtorEq,Nat.reduceEqDiff,Nat.reduceAdd,Nat.reduceMul,Nat.reduceSub,Nat.reduceLeDiff,Nat.reduceBEq,Int.reduceToNat,Int.reduceLE,Int.reduceLT,Int.reduceEq,Int.reduceNe,di]
  rfl
def oneF (p:Pl) (o:List Int) (i:Nat):List (List Int)→List (List Int):=fun L=>if (i:Int) ∈ o then [] else if permL p.ch p.load (o ++ [(i:Int)]) then L else []
def ordF (p:Pl):Nat→List Int→List (List Int)
 | 0,o=>[o]
 | f+1,o=>(List.range p.ch.length).flatMap fun (i:Nat)=>oneF p o i (ordF p f (o ++ [(i:Int)]))
def ordersP (p:Pl):List (List Int):=ordF p p.ch.length []
def ordR (p:Pl) (f:Nat) (o:List Int) (i:Nat):List (List Int):=((List.range p.ch.length).drop i).flatMap fun (i:Nat)=>oneF p o i (ordF p f (o ++ [(i:Int)]))
theorem ordR_step {p:Pl} {f:Nat} {o:List Int} {i:Nat} (h:i<p.ch.length):ordR p f o i=oneF p o i (ordF p f (o ++ [(i:Int)])) ++ ordR p f o (i+1):=by
 unfold ordR
 rw [List.drop_eq_getElem_cons (by simpa using h),List.flatMap_cons,List.getElem_range]
theorem ordR_end {p:Pl} {f:Nat} {o:List Int}:ordR p f o p.ch.length=[]:=by
 unfold ordR
 rw [List.drop_of_length_le (by simp)]
 rfl
def plC (r:Ru) (p:Pl):List IV:=[.int .i64 r.I,.int .i64 r.A,.int .i64 r.lo,.int .i64 r.hi,.int .i64 r.T,.int .i64 p.load,snI p.ch,.int .i64 p.wait,.int .i64 p.ticks]
def growR (r:Ru) (p:Pl) (l:Nat) (t:Option (List (List IV))):List (Nat × Res) :=
 [(0,.seq l (false,t)),(1002,.fza (plC r p)),(1003,.box [.yld l]),(1004,.box [.fn 241 [] [.ref 1002 0,.ref 1003 0,.ref 1004 0]])]
def ordI (L:List (List Int)):List (List IV):=L.map fun o=>[snI o]
theorem lookR_same {q:Nat × Res} {L:List (Nat × Res)}:lookR (q :: q :: L)=lookR (q :: L):=by
 funext i
 obtain ⟨j,x⟩:=q
 by_cases h:i=j <;> simp [lookR,h]
theorem bc_same {P:Program} {f:FuncId} {ds:List DV} {q:Nat × Res} {L:List (Nat × Res)} {Phi:DV→(Nat→Option Res)→Prop} (h:BC P f ds (lookR (q :: L)) Phi):BC P f ds (lookR (q :: q :: L)) Phi:=by
 rw [lookR_same]; exact h
theorem b_grow {r:Ru} {p:Pl} (hp:PlanOk p) (l:Nat):∀ (f:Nat) (o:List Int),o.length+f=p.ch.length→(∀ i ∈ o,0≤i∧i<p.ch.length)→∀ (rest:List (List Int)),
  BC Tryz.prog 241 [.imm (snI o),.ref 1002 0,.ref 1003 0,.ref 1004 0] (lookR (growR r p l (some (ordI (ordF p f o ++ rest))))) fun x R' =>
   (x = .imm (.bool true)∧R'=lookR (growR r p l (some (ordI rest))))∨(x = .imm (.bool false)∧R'=lookR (growR r p l none))
 | 0,o,hl,ho,rest=>by
  refine bc_run Tryz.func241 k241 rfl rfl ?_
  simp only [body241,b241,res241,b241k0,b241k1,b241k2,b241k3,b241k4,growR,plC,ruI,ssI,sbI,spI,swI,scI,stI,srI,saI,snI, ↓reduceIte,reduceCtorEq,Nat.reduceEqDiff,Nat.reduceAdd,Nat.reduceMul,Nat.reduceSub,Nat.reduceLeDiff,Nat.reduceBEq,Int.reduceToNat,Int.reduceLE,Int.reduceLT,Int.reduceEq,Int.reduceNe,di]
  rw [if_pos (by omega)]
  rw [show ordI (ordF p 0 o ++ rest)=[snI o] :: ordI rest from rfl]
  refine do_yield rfl rfl rfl (fun _ => ?_) ?_
  ·simp only [res241,b241k0,b241k1,b241k2,b241k3,b241k4,ruI,ssI,sbI,spI,swI,scI,stI,srI,saI,snI, ↓reduceIte,reduceCtorEq,Nat.reduceEqDiff,Nat.reduceAdd,Nat.reduceMul,Nat.reduceSub,Nat.reduceLeDiff,Nat.reduceBEq,Int.reduceToNat,Int.reduceLE,Int.reduceLT,Int.reduceEq,Int.reduceNe,di]
   rw [outD_one res241,getD_tmp]
   exact ⟨_,rfl,rfl,.inl rfl⟩
  ·simp only [res241,b241k0,b241k1,b241k2,b241k3,b241k4,ruI,ssI,sbI,spI,swI,scI,stI,srI,saI,snI, ↓reduceIte,reduceCtorEq,Nat.reduceEqDiff,Nat.reduceAdd,Nat.reduceMul,Nat.reduceSub,Nat.reduceLeDiff,Nat.reduceBEq,Int.reduceToNat,Int.reduceLE,Int.reduceLT,Int.reduceEq,Int.reduceNe,di]
   rw [outD_one res241,getD_tmp]
   exact ⟨_,rfl,rfl,.inr rfl⟩
 | f+1,o,hl,ho,rest=>by
  refine bc_run Tryz.func241 k241 rfl rfl ?_
  simp only [body241,b241,res241,b241k0,b241k1,b241k2,b241k3,b241k4,growR,plC,ruI,ssI,sbI,spI,swI,scI,stI,srI,saI,snI, ↓reduceIte,reduceCtorEq,Nat.reduceEqDiff,Nat.reduceAdd,Nat.reduceMul,Nat.reduceSub,Nat.reduceLeDiff,Nat.reduceBEq,Int.reduceToNat,Int.reduceLE,Int.reduceLT,Int.reduceEq,Int.reduceNe,di]
  rw [if_neg (by omega)]
  refine loop_keep (α:=Nat) rfl (fun i=>p.ch.length - i) (fun i=>i≤p.ch.length)
   (fun i=>[(0,.imm (snI o)),(1,.ref 1002 0),(3,.ref 1004 0),(21,.imm (.int .i64 p.ch.length)),(22,.imm (.int .i64 i))])
   (fun i=>growR r p l (some (ordI (ordR p f o i ++ rest)))) 0 (Nat.zero_le _) (by simp only [growR,plC,ruI,ssI,sbI,spI,swI,scI,stI,srI,saI,snI, ↓reduceIte,reduceCtorEq,Nat.reduceEqDiff,Nat.reduceAdd,Nat.reduceMul,Nat.reduceSub,Nat.reduceLeDiff,Nat.reduceBEq,Int.reduceToNat,Int.reduceLE,Int.reduceLT,Int.reduceEq,Int.reduceNe,di] <;> rfl) ?_
  intro i hi ih
  simp only [res241,b241k0,b241k1,b241k2,b241k3,b241k4,growR,plC,ruI,ssI,sbI,spI,swI,scI,stI,srI,saI,snI, ↓reduceIte,reduceCtorEq,Nat.reduceEqDiff,Nat.reduceAdd,Nat.reduceMul,Nat.reduceSub,Nat.reduceLeDiff,Nat.reduceBEq,Int.reduceToNat,Int.reduceLE,Int.reduceLT,Int.reduceEq,Int.reduceNe,di]
  split
  case isFalse h =>
   have hi2:i=p.ch.length:=by omega
   subst hi2
   rw [outD_one res241,getD_tmp]
   exact ⟨_,rfl,rfl,.inl ⟨rfl,by rw [ordR_end]; rfl⟩⟩
  rename_i h
  have hlt:i<p.ch.length:=by omega
  have hol:o.length≤4:=by have:=hp.len; omega
  refine calls_of (s_Contains (l:=o) (v:=i) (by omega)) ?_
  simp only [res241,b241k0,b241k1,b241k2,b241k3,b241k4,ruI,ssI,sbI,spI,swI,scI,stI,srI,saI,snI, ↓reduceIte,reduceCtorEq,Nat.reduceEqDiff,Nat.reduceAdd,Nat.reduceMul,Nat.reduceSub,Nat.reduceLeDiff,Nat.reduceBEq,Int.reduceToNat,Int.reduceLE,Int.reduceLT,Int.reduceEq,Int.reduceNe,di]
  rw [ordR_step hlt]
  unfold oneF
  by_cases hin:(i:Int) ∈ o
  ·rw [if_pos hin]
   simp only [hin,decide_true,ruI,ssI,sbI,spI,swI,scI,stI,srI,saI,snI, ↓reduceIte,reduceCtorEq,Nat.reduceEqDiff,Nat.reduceAdd,Nat.reduceMul,Nat.reduceSub,Nat.reduceLeDiff,Nat.reduceBEq,Int.reduceToNat,Int.reduceLE,Int.reduceLT,Int.reduceEq,Int.reduceNe,di]
   rw [wrap64 (by omega) (by have:=hp.len; omega)]
   refine ih (i+1) _ _ (by omega) (by omega) (by simp only [growR,plC,ruI,ssI,sbI,spI,swI,scI,stI,srI,saI,snI, ↓reduceIte,reduceCtorEq,Nat.reduceEqDiff,Nat.reduceAdd,Nat.reduceMul,Nat.reduceSub,Nat.reduceLeDiff,Nat.reduceBEq,Int.reduceToNat,Int.reduceLE,Int.reduceLT,Int.reduceEq,Int.reduceNe,di] <;> rfl)
  rw [if_neg hin]
  simp only [hin,decide_false,res241,b241k0,b241k1,b241k2,b241k3,b241k4,ruI,ssI,sbI,spI,swI,scI,stI,srI,saI,snI, ↓reduceIte,reduceCtorEq,Nat.reduceEqDiff,Nat.reduceAdd,Nat.reduceMul,Nat.reduceSub,Nat.reduceLeDiff,Nat.reduceBEq,Int.reduceToNat,Int.reduceLE,Int.reduceLT,Int.reduceEq,Int.reduceNe,di]
  have hidx:Idx p (o ++ [(i:Int)]):=⟨by simp; omega,by
   intro j hj
   rcases List.mem_append.1 hj with hj | hj
   ·exact ho j hj
   ·rw [List.mem_singleton] at hj
    omega⟩
  have hgo:=b_grow (r:=r) hp l f (o ++ [(i:Int)]) (by simp; omega) hidx.2 (ordR p f o (i+1) ++ rest)
  rw [show ordF p f (o ++ [(i:Int)]) ++ (ordR p f o (i+1) ++ rest)=(ordF p f (o ++ [(i:Int)]) ++ ordR p f o (i+1)) ++ rest by rw [List.append_assoc]] at hgo
  refine do_lend rfl (by rw [restr_look]; exact b_CloneY (l:=o) (by omega)) rfl rfl ?_
  rintro x R' (⟨rfl,rfl,rfl⟩ | ⟨rfl,rfl⟩)
  ·refine ⟨_,rfl,rfl,?_⟩
   simp only [res241,b241k0,b241k1,b241k2,b241k3,b241k4,List.nil_append,ruI,ssI,sbI,spI,swI,scI,stI,srI,saI,snI, ↓reduceIte,reduceCtorEq,Nat.reduceEqDiff,Nat.reduceAdd,Nat.reduceMul,Nat.reduceSub,Nat.reduceLeDiff,Nat.reduceBEq,Int.reduceToNat,Int.reduceLE,Int.reduceLT,Int.reduceEq,Int.reduceNe,di]
   repeat (refine And.intro (by omega) ?_)
   rw [List.nil_append] at hidx hgo
   refine calls_of (s_isPermitted (r:=r) hp hidx) ?_
   simp only [res241,b241k0,b241k1,b241k2,b241k3,b241k4,ruI,ssI,sbI,spI,swI,scI,stI,srI,saI,snI, ↓reduceIte,reduceCtorEq,Nat.reduceEqDiff,Nat.reduceAdd,Nat.reduceMul,Nat.reduceSub,Nat.reduceLeDiff,Nat.reduceBEq,Int.reduceToNat,Int.reduceLE,Int.reduceLT,Int.reduceEq,Int.reduceNe,di]
   cases hpm:permL p.ch p.load [(i:Int)]
   ·simp only [ruI,ssI,sbI,spI,swI,scI,stI,srI,saI,snI, ↓reduceIte,reduceCtorEq,Nat.reduceEqDiff,Nat.reduceAdd,Nat.reduceMul,Nat.reduceSub,Nat.reduceLeDiff,Nat.reduceBEq,Int.reduceToNat,Int.reduceLE,Int.reduceLT,Int.reduceEq,Int.reduceNe,di]
    rw [wrap64 (by omega) (by have:=hp.len; omega)]
    refine ih (i+1) _ _ (by omega) (by omega) (by simp only [growR,plC,ruI,ssI,sbI,spI,swI,scI,stI,srI,saI,snI, ↓reduceIte,reduceCtorEq,Nat.reduceEqDiff,Nat.reduceAdd,Nat.reduceMul,Nat.reduceSub,Nat.reduceLeDiff,Nat.reduceBEq,Int.reduceToNat,Int.reduceLE,Int.reduceLT,Int.reduceEq,Int.reduceNe,di] <;> rfl)
   ·simp only [ruI,ssI,sbI,spI,swI,scI,stI,srI,saI,snI, ↓reduceIte,reduceCtorEq,Nat.reduceEqDiff,Nat.reduceAdd,Nat.reduceMul,Nat.reduceSub,Nat.reduceLeDiff,Nat.reduceBEq,Int.reduceToNat,Int.reduceLE,Int.reduceLT,Int.reduceEq,Int.reduceNe,di]
    refine do_lend rfl (by rw [restr_look]; exact bc_same hgo) rfl rfl ?_
    rintro x R' (⟨rfl,rfl⟩ | ⟨rfl,rfl⟩)
    ·refine ⟨_,rfl,rfl,?_⟩
     simp only [res241,b241k0,b241k1,b241k2,b241k3,b241k4,growR,plC,ruI,ssI,sbI,spI,swI,scI,stI,srI,saI,snI, ↓reduceIte,reduceCtorEq,Nat.reduceEqDiff,Nat.reduceAdd,Nat.reduceMul,Nat.reduceSub,Nat.reduceLeDiff,Nat.reduceBEq,Int.reduceToNat,Int.reduceLE,Int.reduceLT,Int.reduceEq,Int.reduceNe,di]
     rw [wrap64 (by omega) (by have:=hp.len; omega)]
     refine ih (i+1) _ _ (by omega) (by omega) (by simp only [growR,plC,ruI,ssI,sbI,spI,swI,scI,stI,srI,saI,snI, ↓reduceIte,reduceCtorEq,Nat.reduceEqDiff,Nat.reduceAdd,Nat.reduceMul,Nat.reduceSub,Nat.reduceLeDiff,Nat.reduceBEq,Int.reduceToNat,Int.reduceLE,Int.reduceLT,Int.reduceEq,Int.reduceNe,di] <;> rfl)
    ·refine ⟨_,rfl,rfl,?_⟩
     simp only [res241,b241k0,b241k1,b241k2,b241k3,b241k4,growR,plC,ruI,ssI,sbI,spI,swI,scI,stI,srI,saI,snI, ↓reduceIte,reduceCtorEq,Nat.reduceEqDiff,Nat.reduceAdd,Nat.reduceMul,Nat.reduceSub,Nat.reduceLeDiff,Nat.reduceBEq,Int.reduceToNat,Int.reduceLE,Int.reduceLT,Int.reduceEq,Int.reduceNe,di]
     rw [outD_one res241,getD_tmp]
     exact ⟨_,rfl,rfl,.inr rfl⟩
  ·refine ⟨_,rfl,rfl,?_⟩
   simp only [res241,b241k0,b241k1,b241k2,b241k3,b241k4,ruI,ssI,sbI,spI,swI,scI,stI,srI,saI,snI, ↓reduceIte,reduceCtorEq,Nat.reduceEqDiff,Nat.reduceAdd,Nat.reduceMul,Nat.reduceSub,Nat.reduceLeDiff,Nat.reduceBEq,Int.reduceToNat,Int.reduceLE,Int.reduceLT,Int.reduceEq,Int.reduceNe,di]
   repeat (refine And.intro (by omega) ?_)
   refine calls_of (s_isPermitted (r:=r) hp hidx) ?_
   simp only [res241,b241k0,b241k1,b241k2,b241k3,b241k4,ruI,ssI,sbI,spI,swI,scI,stI,srI,saI,snI, ↓reduceIte,reduceCtorEq,Nat.reduceEqDiff,Nat.reduceAdd,Nat.reduceMul,Nat.reduceSub,Nat.reduceLeDiff,Nat.reduceBEq,Int.reduceToNat,Int.reduceLE,Int.reduceLT,Int.reduceEq,Int.reduceNe,di]
   cases hpm:permL p.ch p.load (o ++ [(i:Int)])
   ·simp only [ruI,ssI,sbI,spI,swI,scI,stI,srI,saI,snI, ↓reduceIte,reduceCtorEq,Nat.reduceEqDiff,Nat.reduceAdd,Nat.reduceMul,Nat.reduceSub,Nat.reduceLeDiff,Nat.reduceBEq,Int.reduceToNat,Int.reduceLE,Int.reduceLT,Int.reduceEq,Int.reduceNe,di]
    rw [wrap64 (by omega) (by have:=hp.len; omega)]
    refine ih (i+1) _ _ (by omega) (by omega) (by simp only [growR,plC,ruI,ssI,sbI,spI,swI,scI,stI,srI,saI,snI, ↓reduceIte,reduceCtorEq,Nat.reduceEqDiff,Nat.reduceAdd,Nat.reduceMul,Nat.reduceSub,Nat.reduceLeDiff,Nat.reduceBEq,Int.reduceToNat,Int.reduceLE,Int.reduceLT,Int.reduceEq,Int.reduceNe,di] <;> rfl)
   ·simp only [ruI,ssI,sbI,spI,swI,scI,stI,srI,saI,snI, ↓reduceIte,reduceCtorEq,Nat.reduceEqDiff,Nat.reduceAdd,Nat.reduceMul,Nat.reduceSub,Nat.reduceLeDiff,Nat.reduceBEq,Int.reduceToNat,Int.reduceLE,Int.reduceLT,Int.reduceEq,Int.reduceNe,di]
    refine do_lend rfl (by rw [restr_look]; exact bc_same hgo) rfl rfl ?_
    rintro x R' (⟨rfl,rfl⟩ | ⟨rfl,rfl⟩)
    ·refine ⟨_,rfl,rfl,?_⟩
     simp only [res241,b241k0,b241k1,b241k2,b241k3,b241k4,growR,plC,ruI,ssI,sbI,spI,swI,scI,stI,srI,saI,snI, ↓reduceIte,reduceCtorEq,Nat.reduceEqDiff,Nat.reduceAdd,Nat.reduceMul,Nat.reduceSub,Nat.reduceLeDiff,Nat.reduceBEq,Int.reduceToNat,Int.reduceLE,Int.reduceLT,Int.reduceEq,Int.reduceNe,di]
     rw [wrap64 (by omega) (by have:=hp.len; omega)]
     refine ih (i+1) _ _ (by omega) (by omega) (by simp only [growR,plC,ruI,ssI,sbI,spI,swI,scI,stI,srI,saI,snI, ↓reduceIte,reduceCtorEq,Nat.reduceEqDiff,Nat.reduceAdd,Nat.reduceMul,Nat.reduceSub,Nat.reduceLeDiff,Nat.reduceBEq,Int.reduceToNat,Int.reduceLE,Int.reduceLT,Int.reduceEq,Int.reduceNe,di] <;> rfl)
    ·refine ⟨_,rfl,rfl,?_⟩
     simp only [res241,b241k0,b241k1,b241k2,b241k3,b241k4,growR,plC,ruI,ssI,sbI,spI,swI,scI,stI,srI,saI,snI, ↓reduceIte,reduceCtorEq,Nat.reduceEqDiff,Nat.reduceAdd,Nat.reduceMul,Nat.reduceSub,Nat.reduceLeDiff,Nat.reduceBEq,Int.reduceToNat,Int.reduceLE,Int.reduceLT,Int.reduceEq,Int.reduceNe,di]
     rw [outD_one res241,getD_tmp]
     exact ⟨_,rfl,rfl,.inr rfl⟩
theorem it_orders {r:Ru} {p:Pl} (hp:PlanOk p) (l:Nat) :
  BC Tryz.prog 176 [.imm (saI (r,p)),.yld l] (lookR [(0,.seq l (false,some ((ordersP p).map fun o=>[snI o])))]) fun _ R'=>seqOver l false R':=by
 refine bc_run Tryz.func176 k176 rfl rfl ?_
 simp only [body176,b176,res176,ruI,ssI,sbI,spI,swI,scI,stI,srI,saI,snI, ↓reduceIte,reduceCtorEq,Nat.reduceEqDiff,Nat.reduceAdd,Nat.reduceMul,Nat.reduceSub,Nat.reduceLeDiff,Nat.reduceBEq,Int.reduceToNat,Int.reduceLE,Int.reduceLT,Int.reduceEq,Int.reduceNe,di]
 refine run_ren rfl (by first | decide | rfl) (by first | decide | rfl) (by first | decide | rfl) ?_
 simp only [ruI,ssI,sbI,spI,swI,scI,stI,srI,saI,snI, ↓reduceIte,reduceCtorEq,Nat.reduceEqDiff,Nat.reduceAdd,Nat.reduceMul,Nat.reduceSub,Nat.reduceLeDiff,Nat.reduceBEq,Int.reduceToNat,Int.reduceLE,Int.reduceLT,Int.reduceEq,Int.reduceNe,di]
 refine run_ren rfl (by first | decide | rfl) (by first | decide | rfl) (by first | decide | rfl) ?_
 simp only [ruI,ssI,sbI,spI,swI,scI,stI,srI,saI,snI, ↓reduceIte,reduceCtorEq,Nat.reduceEqDiff,Nat.reduceAdd,Nat.reduceMul,Nat.reduceSub,Nat.reduceLeDiff,Nat.reduceBEq,Int.reduceToNat,Int.reduceLE,Int.reduceLT,Int.reduceEq,Int.reduceNe,di]
 refine run_ren rfl (by first | decide | rfl) (by first | decide | rfl) (by first | decide | rfl) ?_
 simp only [ruI,ssI,sbI,spI,swI,scI,stI,srI,saI,snI, ↓reduceIte,reduceCtorEq,Nat.reduceEqDiff,Nat.reduceAdd,Nat.reduceMul,Nat.reduceSub,Nat.reduceLeDiff,Nat.reduceBEq,Int.reduceToNat,Int.reduceLE,Int.reduceLT,Int.reduceEq,Int.reduceNe,di]
 have hgo:=b_grow (r:=r) hp l p.ch.length [] (by simp) (by simp) []
 rw [List.append_nil] at hgo
 have e:restr [0,1002,1003,1004] (lookR
   [(1004,Res.box [DV.fn 241 [] [DV.ref 1002 0,DV.ref 1003 0,DV.ref 1004 0]]),(1004,Res.box [DV.imm IV.nilf]),(1003,Res.box [DV.yld l]),(1002,.fza (plC r p)),
    (0,Res.seq l (false,some (ordI (ordersP p))))])=lookR (growR r p l (some (ordI (ordersP p)))):=by
  rw [restr_look]
  show lookR [_,_,_,_,_]=lookR [_,_,_,_]
  funext i
  unfold lookR lookR lookR lookR lookR
  by_cases h0:i=0
  ·subst h0; rfl
  by_cases h2:i=1002
  ·subst h2; rfl
  by_cases h3:i=1003
  ·subst h3; rfl
  by_cases h4:i=1004
  ·subst h4; rfl
  simp [lookR,h0,h2,h3,h4]
 refine do_lend rfl (Phi:=fun x R' =>
   (x = .imm (.bool true)∧R'=lookR (growR r p l (some (ordI []))))∨(x = .imm (.bool false)∧R'=lookR (growR r p l none))) (Eq.mpr (congrArg (fun R=>BC Tryz.prog 241 [.imm (snI []),.ref 1002 0,.ref 1003 0,.ref 1004 0] R _) e) hgo) rfl rfl ?_
 rintro x R' (⟨rfl,rfl⟩ | ⟨rfl,rfl⟩)
 ·refine ⟨_,rfl,rfl,?_⟩
  simp only [growR,plC,ruI,ssI,sbI,spI,swI,scI,stI,srI,saI,snI, ↓reduceIte,reduceCtorEq,Nat.reduceEqDiff,Nat.reduceAdd,Nat.reduceMul,Nat.reduceSub,Nat.reduceLeDiff,Nat.reduceBEq,Int.reduceToNat,Int.reduceLE,Int.reduceLT,Int.reduceEq,Int.reduceNe,di]
  rw [outD_nil res176]
  exact ⟨_,rfl,rfl,.inl ⟨rfl,rfl⟩⟩
 ·refine ⟨_,rfl,rfl,?_⟩
  simp only [growR,plC,ruI,ssI,sbI,spI,swI,scI,stI,srI,saI,snI, ↓reduceIte,reduceCtorEq,Nat.reduceEqDiff,Nat.reduceAdd,Nat.reduceMul,Nat.reduceSub,Nat.reduceLeDiff,Nat.reduceBEq,Int.reduceToNat,Int.reduceLE,Int.reduceLT,Int.reduceEq,Int.reduceNe,di]
  rw [outD_nil res176]
  exact ⟨_,rfl,rfl,.inr rfl⟩
end Go.DI


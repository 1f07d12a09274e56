/- The reference's functions of plans, as data. No condition. -/
import Derived.Test.YtaphhpphfffnfaaGreatDoorTwf
namespace Go.DI
open Go.Proofs Go.RowKit
def b290k0:DCode :=
 (.region [⟨some 10,.mov,[.t 5],none,[]⟩,
 ⟨some 11,(.bin .add),[.t 10,.c (.int .i64 1)],none,[0]⟩,
 ⟨some 5,.mov,[.t 11],none,[1,0,1]⟩] false)
def b290k1:DCode :=
 (.seq
 (.block 1
 (.seq
 (.region [⟨some 12,.movv,[.t 0],none,[]⟩,
 ⟨some 13,.mov,[.t 5],none,[]⟩,
 ⟨some 14,(.iaddr 1),[.t 12,.t 13],none,[0,1]⟩,
 ⟨some 15,(.load false 1),[.t 14],none,[2]⟩,
 ⟨some 16,.mov,[.t 1],none,[]⟩,
 ⟨some 17,(.bin .eql),[.t 15,.t 16],none,[3,4]⟩] false)
 (.cond (.t 17)
 (.seq
 (.region [⟨some 4,.mov,[.c (.bool true)],none,[]⟩] false)
 .ret)
 .skip)))
 (.keep [0,1,5] [] b290k0))
def b290l0:DCode:=.keep [0,1,5] []
 (.seq
 (.seq
 (.region [⟨some 6,.mov,[.t 5],none,[]⟩,
 ⟨some 7,.movv,[.t 0],none,[]⟩,
 ⟨some 8,.len,[.t 7],none,[1]⟩,
 ⟨some 9,(.bin .lss),[.t 6,.t 8],none,[0,2]⟩] false)
 (.cond (.t 9)
 .skip
 (.exit 0)))
 (.keep [0,1,5] [] b290k1))
def b290k2:DCode :=
 (.seq
 (.region [⟨some 4,.mov,[.c (.bool false)],none,[]⟩] false)
 .ret)
def b290:DCode :=
 (.seq
 (.region [⟨some 4,.mov,[.c (.bool false)],none,[]⟩] false)
 (.seq
 (.seq
 (.region [⟨some 5,.mov,[.c (.int .i64 0)],none,[]⟩] false)
 (.block 0
 (.loop b290l0)))
 (.keep [] [] b290k2)))
def d290:DFn:=⟨2,18,[.tmp 4],b290⟩
theorem body290:d290.body=b290:=rfl
theorem res290:d290.res=[.tmp 4]:=rfl
theorem k290:chkFn Tryz.prog Tryz.f290 d290=true:=by kernel_rfl
def b1052:DCode :=
 (.seq
 (.region [⟨some 2,.mov,[.z 1],none,[]⟩] false)
 (.seq
 (.region [⟨some 3,(.bsl 1),[],none,[]⟩,
 ⟨some 4,.movv,[.t 0],none,[]⟩,
 ⟨some 5,(.append 1 8 false),[.t 3,.t 4],none,[0,1]⟩,
 ⟨some 2,.mov,[.t 5],none,[2,2,0,1,2]⟩] false)
 (.ren 5 1000
 .ret)))
def d1052:DFn:=⟨1,6,[.tmp 2],b1052⟩
theorem body1052:d1052.body=b1052:=rfl
theorem res1052:d1052.res=[.tmp 2]:=rfl
theorem k1052:chkFnB Tryz.prog Tryz.f52 d1052 [] [1000]=true:=by kernel_rfl
def b289k0:DCode :=
 (.region [⟨some 13,.mov,[.t 6],none,[]⟩,
 ⟨some 14,(.bin .add),[.t 13,.c (.int .i64 1)],none,[0]⟩,
 ⟨some 6,.mov,[.t 14],none,[1,0,1]⟩] false)
def b289k1:DCode :=
 (.seq
 (.block 1
 (.seq
 (.region [⟨some 15,.mov,[.t 5],none,[]⟩,
 ⟨some 16,(.faddr 1 false 1),[.t 2],none,[]⟩,
 ⟨some 17,(.load false 1),[.t 16],none,[1]⟩,
 ⟨some 18,.movv,[.t 1],none,[]⟩,
 ⟨some 19,.mov,[.t 6],none,[]⟩,
 ⟨some 20,(.iaddr 1),[.t 18,.t 19],none,[3,4]⟩,
 ⟨some 21,(.load false 1),[.t 20],none,[5]⟩,
 ⟨some 22,(.iaddr 1),[.t 17,.t 21],none,[2,6]⟩,
 ⟨some 23,(.load false 1),[.t 22],none,[7]⟩,
 ⟨some 24,(.bin .add),[.t 15,.t 23],none,[0,8]⟩,
 ⟨some 5,.mov,[.t 24],none,[9,0,1,2,3,4,5,6,7,8,9]⟩] true)
 (.seq
 (.region [⟨some 25,.mov,[.t 5],none,[]⟩,
 ⟨some 26,.call,[.f 168,.t 25],none,[0]⟩,
 ⟨some 27,(.bin .neq),[.t 26,.c (.int .i64 0)],none,[1]⟩] false)
 (.cond (.t 27)
 (.seq
 (.region [⟨some 4,.mov,[.c (.bool false)],none,[]⟩] false)
 .ret)
 .skip))))
 (.keep [1,2,5,6] [2] b289k0))
def b289l0:DCode:=.keep [1,2,5,6] [2]
 (.seq
 (.seq
 (.region [⟨some 9,.mov,[.t 6],none,[]⟩,
 ⟨some 10,.movv,[.t 1],none,[]⟩,
 ⟨some 11,.len,[.t 10],none,[1]⟩,
 ⟨some 12,(.bin .lss),[.t 9,.t 11],none,[0,2]⟩] false)
 (.cond (.t 12)
 .skip
 (.exit 0)))
 (.keep [1,2,5,6] [2] b289k1))
def b289k2:DCode :=
 (.seq
 (.region [⟨some 4,.mov,[.c (.bool true)],none,[]⟩] false)
 .ret)
def b289:DCode :=
 (.seq
 (.region [⟨some 2,.box,[.t 0],none,[]⟩,
 ⟨some 4,.mov,[.c (.bool false)],none,[]⟩] false)
 (.seq
 (.region [⟨some 7,(.faddr 0 false 1),[.t 2],none,[]⟩,
 ⟨some 8,(.load false 1),[.t 7],none,[0]⟩,
 ⟨some 5,.mov,[.t 8],none,[1,0,1]⟩] false)
 (.seq
 (.seq
 (.region [⟨some 6,.mov,[.c (.int .i64 0)],none,[]⟩] false)
 (.block 0
 (.loop b289l0)))
 (.keep [] [] b289k2))))
def d289:DFn:=⟨2,28,[.tmp 4],b289⟩
theorem body289:d289.body=b289:=rfl
theorem res289:d289.res=[.tmp 4]:=rfl
theorem k289:chkFn Tryz.prog Tryz.f289 d289=true:=by kernel_rfl
def b247k0:DCode :=
 (.region [⟨some 25,.mov,[.t 6],none,[]⟩,
 ⟨some 26,(.bin .add),[.t 25,.c (.int .i64 1)],none,[0]⟩,
 ⟨some 6,.mov,[.t 26],none,[1,0,1]⟩] false)
def b247k1:DCode :=
 (.seq
 (.block 1
 (.seq
 (.region [⟨some 27,.movv,[.t 1],none,[]⟩,
 ⟨some 28,.mov,[.t 6],none,[]⟩,
 ⟨some 29,.call,[.f 290,.t 27,.t 28],none,[0,1]⟩,
 ⟨some 30,(.un .not),[.t 29],none,[2]⟩] false)
 (.cond (.t 30)
 (.freeze [1000]
 (.region [⟨some 31,.mov,[.t 5],none,[]⟩,
 ⟨some 32,(.loadf true 4 []),[.t 2],none,[]⟩,
 ⟨some 33,.movv,[.t 1],none,[]⟩,
 ⟨some 35,.mov,[.t 6],none,[]⟩,
 ⟨some 36,(.bsl 1),[.t 35],none,[4]⟩,
 ⟨some 34,(.callb []),[.f 52,.t 33],none,[2]⟩,
 ⟨some 37,(.append 1 8 false),[.t 34,.t 36],none,[3,5,3]⟩,
 ⟨some 38,.call,[.f 247,.t 32,.t 37],none,[1,6,6]⟩,
 ⟨some 39,(.append 1 24 false),[.t 31,.t 38],none,[0,7,7]⟩,
 ⟨some 5,.mov,[.t 39],none,[8,8,0,1,2,3,4,5,6,7,8]⟩] true))
 .skip)))
 (.keep [1,2,5,6] [5,39] b247k0))
def b247l0:DCode:=.keep [1,2,5,6] [5,39]
 (.seq
 (.seq
 (.region [⟨some 20,.mov,[.t 6],none,[]⟩,
 ⟨some 21,(.faddr 1 false 1),[.t 2],none,[]⟩,
 ⟨some 22,(.load false 1),[.t 21],none,[1]⟩,
 ⟨some 23,.len,[.t 22],none,[2]⟩,
 ⟨some 24,(.bin .lss),[.t 20,.t 23],none,[0,3]⟩] false)
 (.cond (.t 24)
 .skip
 (.exit 0)))
 (.keep [1,2,5,6] [5,39] b247k1))
def b247k2:DCode :=
 (.seq
 (.region [⟨some 40,.movv,[.t 5],none,[]⟩,
 ⟨some 4,.movv,[.t 40],none,[0,0]⟩] false)
 .ret)
def b247k3:DCode :=
 (.seq
 (.region [⟨some 5,(.ntok 1),[.c (.slc 1 [])],none,[]⟩] false)
 (.seq
 (.seq
 (.region [⟨some 6,.mov,[.c (.int .i64 0)],none,[]⟩] false)
 (.block 0
 (.loop b247l0)))
 (.keep [5] [5,39] b247k2)))
def b247k4:DCode :=
 (.seq
 (.seq
 (.region [⟨some 11,.movv,[.t 1],none,[]⟩,
 ⟨some 12,.len,[.t 11],none,[0]⟩,
 ⟨some 13,(.faddr 1 false 1),[.t 2],none,[]⟩,
 ⟨some 14,(.load false 1),[.t 13],none,[2]⟩,
 ⟨some 15,.len,[.t 14],none,[3]⟩,
 ⟨some 16,(.bin .eql),[.t 12,.t 15],none,[1,4]⟩] false)
 (.cond (.t 16)
 (.seq
 (.region [⟨some 17,.movv,[.t 1],none,[]⟩,
 ⟨some 18,.call,[.f 52,.t 17],none,[0]⟩,
 ⟨some 19,(.bsl 1),[.t 18],none,[1]⟩,
 ⟨some 4,.movv,[.t 19],none,[2,1,0,1,2]⟩] false)
 .ret)
 .skip))
 (.keep [1,2] [] b247k3))
def b247:DCode :=
 (.seq
 (.settle [2]
 (.region [⟨some 2,.box,[.t 0],none,[]⟩,
 ⟨some 4,.mov,[.c (.slc 1 [])],none,[]⟩] false))
 (.seq
 (.seq
 (.region [⟨some 7,(.load true 4),[.t 2],none,[]⟩,
 ⟨some 8,.movv,[.t 1],none,[]⟩,
 ⟨some 9,.call,[.f 289,.t 7,.t 8],none,[0,1]⟩,
 ⟨some 10,(.un .not),[.t 9],none,[2]⟩] false)
 (.cond (.t 10)
 (.seq
 (.region [⟨some 4,.mov,[.c (.slc 1 [])],none,[]⟩] false)
 .ret)
 .skip))
 (.keep [1,2] [] b247k4)))
def d247:DFn:=⟨2,41,[.tmp 4],b247⟩
theorem body247:d247.body=b247:=rfl
theorem res247:d247.res=[.tmp 4]:=rfl
theorem k247:chkFn Tryz.prog Tryz.f247 d247=true:=by kernel_rfl
def b183:DCode :=
 (.seq
 (.region [⟨some 1,.box,[.t 0],none,[]⟩,
 ⟨some 2,.mov,[.c (.slc 1 [])],none,[]⟩] false)
 (.seq
 (.region [⟨some 3,(.load true 4),[.t 1],none,[]⟩,
 ⟨some 4,.call,[.f 247,.t 3,.c (.slc 1 [])],none,[0]⟩,
 ⟨some 2,.movv,[.t 4],none,[1,1,0,1]⟩] false)
 .ret))
def d183:DFn:=⟨1,5,[.tmp 2],b183⟩
theorem body183:d183.body=b183:=rfl
theorem res183:d183.res=[.tmp 2]:=rfl
theorem k183:chkFn Tryz.prog Tryz.f183 d183=true:=by kernel_rfl
def b156k0:DCode :=
 (.seq
 (.region [⟨some 31,(.faddr 1 false 1),[.t 1],none,[]⟩,
 ⟨some 32,(.load false 1),[.t 31],none,[0]⟩,
 ⟨some 33,.mov,[.t 5],none,[]⟩,
 ⟨some 34,(.iaddr 1),[.t 32,.t 33],none,[1,2]⟩,
 ⟨some 35,(.load false 1),[.t 34],none,[3]⟩,
 ⟨some 36,(.bin .eql),[.t 35,.c (.int .i64 0)],none,[4]⟩] false)
 (.cond (.t 36)
 (.seq
 (.region [⟨some 37,.mov,[.t 5],none,[]⟩,
 ⟨some 2,.mov,[.t 37],none,[0,0]⟩,
 ⟨some 3,.mov,[.c (.int .i64 11)],none,[1,0,1]⟩] false)
 .ret)
 .skip))
def b156k1:DCode :=
 (.region [⟨some 21,.mov,[.t 5],none,[]⟩,
 ⟨some 22,(.bin .add),[.t 21,.c (.int .i64 1)],none,[0]⟩,
 ⟨some 5,.mov,[.t 22],none,[1,0,1]⟩] false)
def b156k2:DCode :=
 (.seq
 (.block 1
 (.seq
 (.seq
 (.region [⟨some 23,(.faddr 1 false 1),[.t 1],none,[]⟩,
 ⟨some 24,(.load false 1),[.t 23],none,[0]⟩,
 ⟨some 25,.mov,[.t 5],none,[]⟩,
 ⟨some 26,(.iaddr 1),[.t 24,.t 25],none,[1,2]⟩,
 ⟨some 27,(.load false 1),[.t 26],none,[3]⟩,
 ⟨some 28,.call,[.f 47,.t 27,.c (.int .i64 (-1000)),.c (.int .i64 1000)],none,[4]⟩,
 ⟨some 29,(.un .not),[.t 28],none,[5]⟩] false)
 (.cond (.t 29)
 (.seq
 (.region [⟨some 30,.mov,[.t 5],none,[]⟩,
 ⟨some 2,.mov,[.t 30],none,[0,0]⟩,
 ⟨some 3,.mov,[.c (.int .i64 2)],none,[1,0,1]⟩] false)
 .ret)
 .skip))
 (.keep [1,5] [1] b156k0)))
 (.keep [1,5] [1] b156k1))
def b156l0:DCode:=.keep [1,5] [1]
 (.seq
 (.seq
 (.region [⟨some 16,.mov,[.t 5],none,[]⟩,
 ⟨some 17,(.faddr 1 false 1),[.t 1],none,[]⟩,
 ⟨some 18,(.load false 1),[.t 17],none,[1]⟩,
 ⟨some 19,.len,[.t 18],none,[2]⟩,
 ⟨some 20,(.bin .lss),[.t 16,.t 19],none,[0,3]⟩] false)
 (.cond (.t 20)
 .skip
 (.exit 0)))
 (.keep [1,5] [1] b156k2))
def b156k3:DCode :=
 (.seq
 (.region [⟨some 2,.mov,[.c (.int .i64 0)],none,[]⟩,
 ⟨some 3,.mov,[.c (.int .i64 0)],none,[0,0]⟩] false)
 .ret)
def b156k4:DCode :=
 (.seq
 (.seq
 (.region [⟨some 38,(.faddr 2 false 1),[.t 1],none,[]⟩,
 ⟨some 39,(.load false 1),[.t 38],none,[0]⟩,
 ⟨some 40,.call,[.f 47,.t 39,.c (.int .i64 1),.c (.int .i64 20)],none,[1]⟩,
 ⟨some 41,(.un .not),[.t 40],none,[2]⟩,
 ⟨some 42,.mov,[.t 41],none,[3,2]⟩,
 ⟨some 43,(.faddr 3 false 1),[.t 1],(some (42,false)),[4]⟩,
 ⟨some 44,(.load false 1),[.t 43],(some (42,false)),[5,4]⟩,
 ⟨some 45,.call,[.f 47,.t 44,.c (.int .i64 1),.c (.int .i64 200)],(some (42,false)),[6,4,4]⟩,
 ⟨some 46,(.un .not),[.t 45],(some (42,false)),[7,4]⟩,
 ⟨some 47,.pick,[.t 42,.c (.bool true),.t 46],none,[4,8]⟩] false)
 (.cond (.t 47)
 (.seq
 (.region [⟨some 2,.mov,[.c (.int .i64 0)],none,[]⟩,
 ⟨some 3,.mov,[.c (.int .i64 2)],none,[0,0]⟩] false)
 .ret)
 .skip))
 (.keep [] [] b156k3))
def b156k5:DCode :=
 (.seq
 (.seq
 (.region [⟨some 5,.mov,[.c (.int .i64 0)],none,[]⟩] false)
 (.block 0
 (.loop b156l0)))
 (.keep [1] [1] b156k4))
def b156k6:DCode :=
 (.seq
 (.seq
 (.region [⟨some 12,(.faddr 1 false 1),[.t 1],none,[]⟩,
 ⟨some 13,(.load false 1),[.t 12],none,[0]⟩,
 ⟨some 14,.len,[.t 13],none,[1]⟩,
 ⟨some 15,(.bin .gtr),[.t 14,.c (.int .i64 4)],none,[2]⟩] false)
 (.cond (.t 15)
 (.seq
 (.region [⟨some 2,.mov,[.c (.int .i64 0)],none,[]⟩,
 ⟨some 3,.mov,[.c (.int .i64 8)],none,[0,0]⟩] false)
 .ret)
 .skip))
 (.keep [1] [1] b156k5))
def b156:DCode :=
 (.seq
 (.region [⟨some 1,.box,[.t 0],none,[]⟩,
 ⟨some 2,.mov,[.c (.int .i64 0)],none,[]⟩,
 ⟨some 3,.mov,[.c (.int .i64 0)],none,[1]⟩] false)
 (.seq
 (.seq
 (.region [⟨some 6,(.faddr 0 false 1),[.t 1],none,[]⟩,
 ⟨some 7,(.load false 1),[.t 6],none,[0]⟩,
 ⟨some 8,.call,[.f 168,.t 7],none,[1]⟩,
 ⟨some 4,.mov,[.t 8],none,[2,2,0,1,2]⟩] false)
 (.seq
 (.region [⟨some 9,.mov,[.t 4],none,[]⟩,
 ⟨some 10,(.bin .neq),[.t 9,.c (.int .i64 0)],none,[0]⟩] false)
 (.cond (.t 10)
 (.seq
 (.region [⟨some 11,.mov,[.t 4],none,[]⟩,
 ⟨some 2,.mov,[.c (.int .i64 0)],none,[]⟩,
 ⟨some 3,.mov,[.t 11],none,[0,1,0,1]⟩] false)
 .ret)
 .skip)))
 (.keep [1] [1] b156k6)))
def d156:DFn:=⟨1,48,[.tmp 2,.tmp 3],b156⟩
theorem body156:d156.body=b156:=rfl
theorem res156:d156.res=[.tmp 2,.tmp 3]:=rfl
theorem k156:chkFn Tryz.prog Tryz.f156 d156=true:=by kernel_rfl
def b68k0:DCode :=
 (.seq
 (.region [⟨some 14,(.load true 4),[.t 3],none,[]⟩,
 ⟨some 15,.call,[.f 156,.t 14],none,[0]⟩,
 ⟨some 13,.mov,[.t 15],none,[1]⟩,
 ⟨some 16,(.ext 0),[.t 13],none,[2]⟩,
 ⟨some 17,(.ext 1),[.t 13],none,[2]⟩,
 ⟨some 6,.mov,[.t 16],none,[3,1,0,1,2,3]⟩,
 ⟨some 7,.mov,[.t 17],none,[4,5,0,1,2,3,4,5]⟩] false)
 (.seq
 (.region [⟨some 18,.mov,[.t 7],none,[]⟩,
 ⟨some 4,.mov,[.t 18],none,[0,0]⟩] false)
 .ret))
def b68:DCode :=
 (.seq
 (.region [⟨some 2,.box,[.t 0],none,[]⟩,
 ⟨some 3,.box,[.t 1],none,[]⟩,
 ⟨some 4,.mov,[.c (.int .i64 0)],none,[]⟩] false)
 (.seq
 (.seq
 (.region [⟨some 8,(.load true 5),[.t 2],none,[]⟩,
 ⟨some 9,.call,[.f 24,.t 8],none,[0]⟩,
 ⟨some 5,.mov,[.t 9],none,[1,1,0,1]⟩] false)
 (.seq
 (.region [⟨some 10,.mov,[.t 5],none,[]⟩,
 ⟨some 11,(.bin .neq),[.t 10,.c (.int .i64 0)],none,[0]⟩] false)
 (.cond (.t 11)
 (.seq
 (.region [⟨some 12,.mov,[.t 5],none,[]⟩,
 ⟨some 4,.mov,[.t 12],none,[0,0]⟩] false)
 .ret)
 .skip)))
 (.keep [3] [3] b68k0)))
def d68:DFn:=⟨2,19,[.tmp 4],b68⟩
theorem body68:d68.body=b68:=rfl
theorem res68:d68.res=[.tmp 4]:=rfl
theorem k68:chkFn Tryz.prog Tryz.f68 d68=true:=by kernel_rfl
def b73:DCode :=
 (.seq
 (.region [⟨some 1,.box,[.t 0],none,[]⟩,
 ⟨some 2,(.alloc [(.imm (.int .i64 0)),(.imm (.slc 1 [])),(.imm (.int .i64 0)),(.imm (.int .i64 0))]),[],none,[]⟩] false)
 (.seq
 (.region [⟨some 3,(.faddr 1 false 1),[.t 1],none,[]⟩,
 ⟨some 4,(.load false 1),[.t 3],none,[0]⟩,
 ⟨some 5,.call,[.f 52,.t 4],none,[1]⟩,
 ⟨some 6,(.faddr 1 false 1),[.t 1],none,[0,1,2]⟩,
 ⟨none,(.store 1),[.t 6,.t 5],none,[3,2,2,0,1,2]⟩] false)
 (.seq
 (.region [⟨some 7,(.load true 4),[.t 1],none,[]⟩,
 ⟨none,(.store 4),[.t 2,.t 7],none,[0,0]⟩] false)
 .ret)))
def d73:DFn:=⟨1,8,[.cell 2 true 4],b73⟩
theorem body73:d73.body=b73:=rfl
theorem res73:d73.res=[.cell 2 true 4]:=rfl
theorem k73:chkFn Tryz.prog Tryz.f73 d73=true:=by kernel_rfl
def b184k0:DCode :=
 (.region [⟨some 21,.mov,[.t 8],none,[]⟩,
 ⟨some 22,(.bin .add),[.t 21,.c (.int .i64 1)],none,[0]⟩,
 ⟨some 8,.mov,[.t 22],none,[1,0,1]⟩] false)
def b184k1:DCode :=
 (.seq
 (.block 3
 (.seq
 (.region [⟨some 23,.mov,[.t 8],none,[]⟩,
 ⟨some 24,(.faddr 2 false 1),[.t 2],none,[]⟩,
 ⟨some 25,(.load false 1),[.t 24],none,[1]⟩,
 ⟨some 26,(.bin .mul),[.t 23,.t 25],none,[0,2]⟩,
 ⟨some 27,.mov,[.t 6],none,[]⟩,
 ⟨some 28,(.bin .leq),[.t 26,.t 27],none,[3,4]⟩] false)
 (.cond (.t 28)
 (.region [⟨some 29,.mov,[.t 7],none,[]⟩,
 ⟨some 30,(.faddr 1 false 1),[.t 2],none,[]⟩,
 ⟨some 31,(.load false 1),[.t 30],none,[1]⟩,
 ⟨some 32,.movv,[.t 1],none,[]⟩,
 ⟨some 33,.mov,[.t 8],none,[]⟩,
 ⟨some 34,(.iaddr 1),[.t 32,.t 33],none,[3,4]⟩,
 ⟨some 35,(.load false 1),[.t 34],none,[5]⟩,
 ⟨some 36,(.iaddr 1),[.t 31,.t 35],none,[2,6]⟩,
 ⟨some 37,(.load false 1),[.t 36],none,[7]⟩,
 ⟨some 38,(.bin .add),[.t 29,.t 37],none,[0,8]⟩,
 ⟨some 7,.mov,[.t 38],none,[9,0,1,2,3,4,5,6,7,8,9]⟩] true)
 .skip)))
 (.keep [1,2,5,6,7,8] [2,5,42] b184k0))
def b184l0:DCode:=.keep [1,2,5,6,7,8] [2,5,42]
 (.seq
 (.seq
 (.region [⟨some 17,.mov,[.t 8],none,[]⟩,
 ⟨some 18,.movv,[.t 1],none,[]⟩,
 ⟨some 19,.len,[.t 18],none,[1]⟩,
 ⟨some 20,(.bin .lss),[.t 17,.t 19],none,[0,2]⟩] false)
 (.cond (.t 20)
 .skip
 (.exit 2)))
 (.keep [1,2,5,6,7,8] [2,5,42] b184k1))
def b184k2:DCode :=
 (.region [⟨some 39,.mov,[.t 5],none,[]⟩,
 ⟨some 40,.mov,[.t 7],none,[]⟩,
 ⟨some 41,(.bsl 1),[.t 40],none,[1]⟩,
 ⟨some 42,(.append 1 8 false),[.t 39,.t 41],none,[0,2]⟩,
 ⟨some 5,.mov,[.t 42],none,[3,3,0,1,2,3]⟩] false)
def b184k3:DCode :=
 (.region [⟨some 13,.mov,[.t 6],none,[]⟩,
 ⟨some 14,(.bin .add),[.t 13,.c (.int .i64 1)],none,[0]⟩,
 ⟨some 6,.mov,[.t 14],none,[1,0,1]⟩] false)
def b184k4:DCode :=
 (.seq
 (.block 1
 (.seq
 (.region [⟨some 15,(.faddr 0 false 1),[.t 2],none,[]⟩,
 ⟨some 16,(.load false 1),[.t 15],none,[0]⟩,
 ⟨some 7,.mov,[.t 16],none,[1,0,1]⟩] false)
 (.seq
 (.seq
 (.region [⟨some 8,.mov,[.c (.int .i64 0)],none,[]⟩] false)
 (.block 2
 (.loop b184l0)))
 (.keep [1,2,5,6,7] [2,5,42] b184k2))))
 (.keep [1,2,5,6] [2,5,42] b184k3))
def b184l1:DCode:=.keep [1,2,5,6] [2,5,42]
 (.seq
 (.seq
 (.region [⟨some 9,.mov,[.t 6],none,[]⟩,
 ⟨some 10,(.faddr 3 false 1),[.t 2],none,[]⟩,
 ⟨some 11,(.load false 1),[.t 10],none,[1]⟩,
 ⟨some 12,(.bin .lss),[.t 9,.t 11],none,[0,2]⟩] false)
 (.cond (.t 12)
 .skip
 (.exit 0)))
 (.keep [1,2,5,6] [2,5,42] b184k4))
def b184k5:DCode :=
 (.seq
 (.region [⟨some 43,.movv,[.t 5],none,[]⟩,
 ⟨some 4,.movv,[.t 43],none,[0,0]⟩] false)
 .ret)
def b184:DCode :=
 (.seq
 (.region [⟨some 2,.box,[.t 0],none,[]⟩,
 ⟨some 4,.mov,[.c (.slc 1 [])],none,[]⟩] false)
 (.seq
 (.region [⟨some 5,(.ntok 1),[.c (.slc 1 [])],none,[]⟩] false)
 (.seq
 (.seq
 (.region [⟨some 6,.mov,[.c (.int .i64 0)],none,[]⟩] false)
 (.block 0
 (.loop b184l1)))
 (.keep [5] [5,42] b184k5))))
def d184:DFn:=⟨2,44,[.tmp 4],b184⟩
theorem body184:d184.body=b184:=rfl
theorem res184:d184.res=[.tmp 4]:=rfl
theorem k184:chkFn Tryz.prog Tryz.f184 d184=true:=by kernel_rfl
end Go.DI


/- The functions of the base's wide numbers and ratios, as data. No condition. -/
import Derived.Test.YtaphhpphfffnfaaGreatDoorTkGe
import Derived.Test.YtaphhpphfffnfaaGreatDoorTkGf
import Derived.Test.YtaphhpphfffnfaaGreatDoorProg
import Derived.KernelRfl
namespace Go.DI
open Go.Proofs Go.RowKit
def b327:DCode :=
 (.seq
 (.region [⟨some 1,.box,[.t 0],none,[]⟩,
 ⟨some 2,.mov,[.c (.int .i64 0)],none,[]⟩] false)
 (.seq
 (.region [⟨some 3,(.faddr 0 false 1),[.t 1],none,[]⟩,
 ⟨some 4,(.load false 1),[.t 3],none,[0]⟩,
 ⟨some 2,.mov,[.t 4],none,[1,0,1]⟩] false)
 .ret))
def d327:DFn:=⟨1,5,[.tmp 2],b327⟩
theorem body327:d327.body=b327:=rfl
theorem res327:d327.res=[.tmp 2]:=rfl
theorem k327:chkFn Tryz.prog Tryz.f327 d327=true:=by kernel_rfl
def b325:DCode :=
 (.seq
 (.region [⟨some 1,.box,[.t 0],none,[]⟩,
 ⟨some 2,(.alloc [(.imm (.int .i64 0)),(.imm (.slc 1 []))]),[],none,[]⟩] false)
 (.seq
 (.region [⟨some 3,(.faddr 0 false 1),[.t 1],none,[]⟩,
 ⟨some 4,(.load false 1),[.t 3],none,[0]⟩,
 ⟨some 5,(.un .neg),[.t 4],none,[1]⟩,
 ⟨some 6,(.faddr 1 false 1),[.t 1],none,[]⟩,
 ⟨some 7,(.load false 1),[.t 6],none,[3]⟩,
 ⟨some 8,(.build [(.imm (.int .i64 0)),(.imm (.slc 1 []))] [(0,1),(1,1)]),[.t 5,.t 7],none,[2,4]⟩,
 ⟨none,(.store 2),[.t 2,.t 8],none,[5,0,1,2,3,4,5]⟩] false)
 .ret))
def d325:DFn:=⟨1,9,[.cell 2 true 2],b325⟩
theorem body325:d325.body=b325:=rfl
theorem res325:d325.res=[.cell 2 true 2]:=rfl
theorem k325:chkFn Tryz.prog Tryz.f325 d325=true:=by kernel_rfl
def b326k0:DCode :=
 (.block 1
 (.region [⟨some 16,.mov,[.t 3],none,[]⟩,
 ⟨some 17,(.bin .sub),[.t 16,.c (.int .i64 1)],none,[0]⟩,
 ⟨some 3,.mov,[.t 17],none,[1,0,1]⟩] false))
def b326l0:DCode:=.keep [0,3] []
 (.seq
 (.seq
 (.region [⟨some 6,.mov,[.t 3],none,[]⟩,
 ⟨some 7,(.bin .gtr),[.t 6,.c (.int .i64 0)],none,[0]⟩,
 ⟨some 8,.mov,[.t 7],none,[1]⟩,
 ⟨some 9,.movv,[.t 0],(some (8,true)),[2]⟩,
 ⟨some 10,.mov,[.t 3],(some (8,true)),[2]⟩,
 ⟨some 11,(.bin .sub),[.t 10,.c (.int .i64 1)],(some (8,true)),[4,2]⟩,
 ⟨some 12,(.iaddr 1),[.t 9,.t 11],(some (8,true)),[3,5,2]⟩,
 ⟨some 13,(.load false 1),[.t 12],(some (8,true)),[6,2]⟩,
 ⟨some 14,(.bin .eql),[.t 13,.c (.int .i64 0)],(some (8,true)),[7,2]⟩,
 ⟨some 15,.pick,[.t 8,.t 14,.c (.bool false)],none,[2,8]⟩] false)
 (.cond (.t 15)
 .skip
 (.exit 0)))
 (.keep [0,3] [] b326k0))
def b326k1:DCode :=
 (.seq
 (.region [⟨some 18,.movv,[.t 0],none,[]⟩,
 ⟨some 19,.mov,[.t 3],none,[]⟩,
 ⟨some 20,(.slice 1 false true),[.t 18,.t 19],none,[0,1]⟩,
 ⟨some 2,.movv,[.t 20],none,[2,0,1,2]⟩] false)
 .ret)
def b326:DCode :=
 (.seq
 (.region [⟨some 2,.mov,[.c (.slc 1 [])],none,[]⟩] false)
 (.seq
 (.region [⟨some 4,.movv,[.t 0],none,[]⟩,
 ⟨some 5,.len,[.t 4],none,[0]⟩,
 ⟨some 3,.mov,[.t 5],none,[1,0,1]⟩] false)
 (.seq
 (.block 0
 (.loop b326l0))
 (.keep [0,3] [] b326k1))))
def d326:DFn:=⟨1,21,[.tmp 2],b326⟩
theorem body326:d326.body=b326:=rfl
theorem res326:d326.res=[.tmp 2]:=rfl
theorem k326:chkFn Tryz.prog Tryz.f326 d326=true:=by kernel_rfl
def b310k0:DCode :=
 (.seq
 (.region [⟨some 10,.mov,[.t 0],none,[]⟩,
 ⟨some 11,.movv,[.t 1],none,[]⟩,
 ⟨some 12,(.build [(.imm (.int .i64 0)),(.imm (.slc 1 []))] [(0,1),(1,1)]),[.t 10,.t 11],none,[0,1]⟩,
 ⟨none,(.store 2),[.t 4,.t 12],none,[2,0,1,2]⟩] false)
 .ret)
def b310:DCode :=
 (.seq
 (.region [⟨some 4,(.alloc [(.imm (.int .i64 0)),(.imm (.slc 1 []))]),[],none,[]⟩] false)
 (.seq
 (.region [⟨some 5,.movv,[.t 1],none,[]⟩,
 ⟨some 6,.call,[.f 326,.t 5],none,[0]⟩,
 ⟨some 1,.movv,[.t 6],none,[1,1,0,1]⟩] false)
 (.seq
 (.seq
 (.region [⟨some 7,.movv,[.t 1],none,[]⟩,
 ⟨some 8,.len,[.t 7],none,[0]⟩,
 ⟨some 9,(.bin .eql),[.t 8,.c (.int .i64 0)],none,[1]⟩] false)
 (.cond (.t 9)
 (.region [⟨some 0,.mov,[.c (.int .i64 0)],none,[]⟩] false)
 .skip))
 (.keep [0,1,4] [4] b310k0))))
def d310:DFn:=⟨2,13,[.cell 4 true 2],b310⟩
theorem body310:d310.body=b310:=rfl
theorem res310:d310.res=[.cell 4 true 2]:=rfl
theorem k310:chkFn Tryz.prog Tryz.f310 d310=true:=by kernel_rfl
def b312k0:DCode :=
 (.block 1
 (.seq
 (.region [⟨some 9,.mov,[.t 4],none,[]⟩,
 ⟨some 10,.mov,[.t 0],none,[]⟩,
 ⟨some 11,(.bin .rem),[.t 10,.c (.int .i64 1000000000)],none,[1]⟩,
 ⟨some 12,.call,[.f 200,.t 11],none,[2]⟩,
 ⟨some 13,(.bsl 1),[.t 12],none,[3]⟩,
 ⟨some 14,(.append 1 8 false),[.t 9,.t 13],none,[0,4,3]⟩,
 ⟨some 4,.mov,[.t 14],none,[5,5,0,1,2,3,4,5]⟩] false)
 (.region [⟨some 15,.mov,[.t 0],none,[]⟩,
 ⟨some 16,(.bin .quo),[.t 15,.c (.int .i64 1000000000)],none,[0]⟩,
 ⟨some 0,.mov,[.t 16],none,[1,0,1]⟩] false)))
def b312l0:DCode:=.keep [0,2,3,4] [2,4,14]
 (.seq
 (.seq
 (.region [⟨some 7,.mov,[.t 0],none,[]⟩,
 ⟨some 8,(.bin .neq),[.t 7,.c (.int .i64 0)],none,[0]⟩] false)
 (.cond (.t 8)
 .skip
 (.exit 0)))
 (.keep [0,2,3,4] [2,4,14] b312k0))
def b312k1:DCode :=
 (.seq
 (.region [⟨some 17,.mov,[.t 3],none,[]⟩,
 ⟨some 18,.movv,[.t 4],none,[]⟩,
 ⟨some 19,.call,[.f 310,.t 17,.t 18],none,[0,1]⟩,
 ⟨none,(.store 2),[.t 2,.t 19],none,[2,2,0,1,2]⟩] false)
 .ret)
def b312k2:DCode :=
 (.seq
 (.region [⟨some 4,(.ntok 1),[.c (.slc 1 [])],none,[]⟩] false)
 (.seq
 (.block 0
 (.loop b312l0))
 (.keep [2,3,4] [2,4,14] b312k1)))
def b312:DCode :=
 (.seq
 (.region [⟨some 2,(.alloc [(.imm (.int .i64 0)),(.imm (.slc 1 []))]),[],none,[]⟩] false)
 (.seq
 (.region [⟨some 3,.mov,[.c (.int .i64 1)],none,[]⟩] false)
 (.seq
 (.seq
 (.region [⟨some 5,.mov,[.t 0],none,[]⟩,
 ⟨some 6,(.bin .lss),[.t 5,.c (.int .i64 0)],none,[0]⟩] false)
 (.cond (.t 6)
 (.region [⟨some 3,.mov,[.c (.int .i64 (-1))],none,[]⟩] false)
 .skip))
 (.keep [0,2,3] [2] b312k2))))
def d312:DFn:=⟨1,20,[.cell 2 true 2],b312⟩
theorem body312:d312.body=b312:=rfl
theorem res312:d312.res=[.cell 2 true 2]:=rfl
theorem k312:chkFn Tryz.prog Tryz.f312 d312=true:=by kernel_rfl
def b333k0:DCode :=
 (.seq
 (.region [⟨some 4,.mov,[.c (.int .i64 1)],none,[]⟩] false)
 .ret)
def b333k1:DCode :=
 (.seq
 (.region [⟨some 32,.movv,[.t 0],none,[]⟩,
 ⟨some 33,.mov,[.t 5],none,[]⟩,
 ⟨some 34,(.iaddr 1),[.t 32,.t 33],none,[0,1]⟩,
 ⟨some 35,(.load false 1),[.t 34],none,[2]⟩,
 ⟨some 36,.movv,[.t 1],none,[]⟩,
 ⟨some 37,.mov,[.t 5],none,[]⟩,
 ⟨some 38,(.iaddr 1),[.t 36,.t 37],none,[4,5]⟩,
 ⟨some 39,(.load false 1),[.t 38],none,[6]⟩,
 ⟨some 40,(.bin .gtr),[.t 35,.t 39],none,[3,7]⟩] true)
 (.cond (.t 40)
 (.seq
 (.region [⟨some 4,.mov,[.c (.int .i64 1)],none,[]⟩] false)
 .ret)
 .skip))
def b333k2:DCode :=
 (.region [⟨some 21,.mov,[.t 5],none,[]⟩,
 ⟨some 22,(.bin .sub),[.t 21,.c (.int .i64 1)],none,[0]⟩,
 ⟨some 5,.mov,[.t 22],none,[1,0,1]⟩] false)
def b333k3:DCode :=
 (.seq
 (.block 1
 (.seq
 (.seq
 (.region [⟨some 23,.movv,[.t 0],none,[]⟩,
 ⟨some 24,.mov,[.t 5],none,[]⟩,
 ⟨some 25,(.iaddr 1),[.t 23,.t 24],none,[0,1]⟩,
 ⟨some 26,(.load false 1),[.t 25],none,[2]⟩,
 ⟨some 27,.movv,[.t 1],none,[]⟩,
 ⟨some 28,.mov,[.t 5],none,[]⟩,
 ⟨some 29,(.iaddr 1),[.t 27,.t 28],none,[4,5]⟩,
 ⟨some 30,(.load false 1),[.t 29],none,[6]⟩,
 ⟨some 31,(.bin .lss),[.t 26,.t 30],none,[3,7]⟩] true)
 (.cond (.t 31)
 (.seq
 (.region [⟨some 4,.mov,[.c (.int .i64 (-1))],none,[]⟩] false)
 .ret)
 .skip))
 (.keep [0,1,5] [] b333k1)))
 (.keep [0,1,5] [] b333k2))
def b333l0:DCode:=.keep [0,1,5] []
 (.seq
 (.seq
 (.region [⟨some 19,.mov,[.t 5],none,[]⟩,
 ⟨some 20,(.bin .geq),[.t 19,.c (.int .i64 0)],none,[0]⟩] false)
 (.cond (.t 20)
 .skip
 (.exit 0)))
 (.keep [0,1,5] [] b333k3))
def b333k4:DCode :=
 (.seq
 (.region [⟨some 4,.mov,[.c (.int .i64 0)],none,[]⟩] false)
 .ret)
def b333k5:DCode :=
 (.seq
 (.seq
 (.region [⟨some 16,.movv,[.t 0],none,[]⟩,
 ⟨some 17,.len,[.t 16],none,[0]⟩,
 ⟨some 18,(.bin .sub),[.t 17,.c (.int .i64 1)],none,[1]⟩,
 ⟨some 5,.mov,[.t 18],none,[2,0,1,2]⟩] false)
 (.block 0
 (.loop b333l0)))
 (.keep [] [] b333k4))
def b333:DCode :=
 (.seq
 (.region [⟨some 4,.mov,[.c (.int .i64 0)],none,[]⟩] false)
 (.seq
 (.seq
 (.region [⟨some 6,.movv,[.t 0],none,[]⟩,
 ⟨some 7,.len,[.t 6],none,[0]⟩,
 ⟨some 8,.movv,[.t 1],none,[]⟩,
 ⟨some 9,.len,[.t 8],none,[2]⟩,
 ⟨some 10,(.bin .neq),[.t 7,.t 9],none,[1,3]⟩] false)
 (.cond (.t 10)
 (.seq
 (.seq
 (.region [⟨some 11,.movv,[.t 0],none,[]⟩,
 ⟨some 12,.len,[.t 11],none,[0]⟩,
 ⟨some 13,.movv,[.t 1],none,[]⟩,
 ⟨some 14,.len,[.t 13],none,[2]⟩,
 ⟨some 15,(.bin .lss),[.t 12,.t 14],none,[1,3]⟩] false)
 (.cond (.t 15)
 (.seq
 (.region [⟨some 4,.mov,[.c (.int .i64 (-1))],none,[]⟩] false)
 .ret)
 .skip))
 (.keep [] [] b333k0))
 .skip))
 (.keep [0,1] [] b333k5)))
def d333:DFn:=⟨2,41,[.tmp 4],b333⟩
theorem body333:d333.body=b333:=rfl
theorem res333:d333.res=[.tmp 4]:=rfl
theorem k333:chkFn Tryz.prog Tryz.f333 d333=true:=by kernel_rfl
def b336k0:DCode :=
 (.seq
 (.region [⟨some 4,.mov,[.c (.int .i64 0)],none,[]⟩] false)
 .ret)
def b336:DCode :=
 (.seq
 (.region [⟨some 4,.mov,[.c (.int .i64 0)],none,[]⟩] false)
 (.seq
 (.seq
 (.region [⟨some 5,.mov,[.t 1],none,[]⟩,
 ⟨some 6,.movv,[.t 0],none,[]⟩,
 ⟨some 7,.len,[.t 6],none,[1]⟩,
 ⟨some 8,(.bin .lss),[.t 5,.t 7],none,[0,2]⟩] false)
 (.cond (.t 8)
 (.seq
 (.region [⟨some 9,.movv,[.t 0],none,[]⟩,
 ⟨some 10,.mov,[.t 1],none,[]⟩,
 ⟨some 11,(.iaddr 1),[.t 9,.t 10],none,[0,1]⟩,
 ⟨some 12,(.load false 1),[.t 11],none,[2]⟩,
 ⟨some 4,.mov,[.t 12],none,[3,0,1,2,3]⟩] false)
 .ret)
 .skip))
 (.keep [] [] b336k0)))
def d336:DFn:=⟨2,13,[.tmp 4],b336⟩
theorem body336:d336.body=b336:=rfl
theorem res336:d336.res=[.tmp 4]:=rfl
theorem k336:chkFn Tryz.prog Tryz.f336 d336=true:=by kernel_rfl
def b332k0:DCode :=
 (.seq
 (.block 1
 (.seq
 (.region [⟨some 25,.movv,[.t 0],none,[]⟩,
 ⟨some 26,.mov,[.t 7],none,[]⟩,
 ⟨some 27,.call,[.f 336,.t 25,.t 26],none,[0,1]⟩,
 ⟨some 28,.movv,[.t 1],none,[]⟩,
 ⟨some 29,.mov,[.t 7],none,[]⟩,
 ⟨some 30,.call,[.f 336,.t 28,.t 29],none,[3,4,2]⟩,
 ⟨some 31,(.bin .add),[.t 27,.t 30],none,[2,5]⟩,
 ⟨some 32,.mov,[.t 6],none,[]⟩,
 ⟨some 33,(.bin .add),[.t 31,.t 32],none,[6,7]⟩,
 ⟨some 8,.mov,[.t 33],none,[8,5,0,1,2,3,4,5,6,7,8]⟩] false)
 (.region [⟨some 34,.mov,[.t 5],none,[]⟩,
 ⟨some 35,.mov,[.t 8],none,[]⟩,
 ⟨some 36,(.bin .rem),[.t 35,.c (.int .i64 1000000000)],none,[1]⟩,
 ⟨some 37,(.bsl 1),[.t 36],none,[2]⟩,
 ⟨some 38,(.append 1 8 false),[.t 34,.t 37],none,[0,3]⟩,
 ⟨some 39,.mov,[.t 8],none,[]⟩,
 ⟨some 40,(.bin .quo),[.t 39,.c (.int .i64 1000000000)],none,[5]⟩,
 ⟨some 5,.mov,[.t 38],none,[4,4,0,1,2,3,4]⟩,
 ⟨some 6,.mov,[.t 40],none,[6,7,0,1,2,3,4,5,6,7]⟩] false)))
 (.region [⟨some 23,.mov,[.t 7],none,[]⟩,
 ⟨some 24,(.bin .add),[.t 23,.c (.int .i64 1)],none,[0]⟩,
 ⟨some 7,.mov,[.t 24],none,[1,0,1]⟩] false))
def b332l0:DCode:=.keep [0,1,5,6,7] [5,38]
 (.seq
 (.seq
 (.region [⟨some 9,.mov,[.t 7],none,[]⟩,
 ⟨some 10,.movv,[.t 0],none,[]⟩,
 ⟨some 11,.len,[.t 10],none,[1]⟩,
 ⟨some 12,(.bin .lss),[.t 9,.t 11],none,[0,2]⟩,
 ⟨some 13,.mov,[.t 12],none,[3]⟩,
 ⟨some 14,.mov,[.t 7],(some (13,false)),[4]⟩,
 ⟨some 15,.movv,[.t 1],(some (13,false)),[4]⟩,
 ⟨some 16,.len,[.t 15],(some (13,false)),[6,4]⟩,
 ⟨some 17,(.bin .lss),[.t 14,.t 16],(some (13,false)),[5,7,4]⟩,
 ⟨some 18,.pick,[.t 13,.c (.bool true),.t 17],none,[4,8]⟩,
 ⟨some 19,.mov,[.t 18],none,[9,4]⟩,
 ⟨some 20,.mov,[.t 6],(some (19,false)),[10]⟩,
 ⟨some 21,(.bin .gtr),[.t 20,.c (.int .i64 0)],(some (19,false)),[11,10]⟩,
 ⟨some 22,.pick,[.t 19,.c (.bool true),.t 21],none,[10,12]⟩] false)
 (.cond (.t 22)
 .skip
 (.exit 0)))
 (.keep [0,1,5,6,7] [5,38] b332k0))
def b332k1:DCode :=
 (.seq
 (.region [⟨some 41,.movv,[.t 5],none,[]⟩,
 ⟨some 4,.movv,[.t 41],none,[0,0]⟩] false)
 .ret)
def b332:DCode :=
 (.seq
 (.region [⟨some 4,.mov,[.c (.slc 1 [])],none,[]⟩] false)
 (.seq
 (.region [⟨some 5,(.ntok 1),[.c (.slc 1 [])],none,[]⟩] false)
 (.seq
 (.region [⟨some 6,.mov,[.c (.int .i64 0)],none,[]⟩] false)
 (.seq
 (.seq
 (.region [⟨some 7,.mov,[.c (.int .i64 0)],none,[]⟩] false)
 (.block 0
 (.loop b332l0)))
 (.keep [5] [5,38] b332k1)))))
def d332:DFn:=⟨2,42,[.tmp 4],b332⟩
theorem body332:d332.body=b332:=rfl
theorem res332:d332.res=[.tmp 4]:=rfl
theorem k332:chkFn Tryz.prog Tryz.f332 d332=true:=by kernel_rfl
def b334k0:DCode :=
 (.region [⟨some 29,.mov,[.t 5],none,[]⟩,
 ⟨some 30,.mov,[.t 8],none,[]⟩,
 ⟨some 31,(.bsl 1),[.t 30],none,[1]⟩,
 ⟨some 32,(.append 1 8 false),[.t 29,.t 31],none,[0,2]⟩,
 ⟨some 5,.mov,[.t 32],none,[3,3,0,1,2,3]⟩] false)
def b334k1:DCode :=
 (.region [⟨some 13,.mov,[.t 7],none,[]⟩,
 ⟨some 14,(.bin .add),[.t 13,.c (.int .i64 1)],none,[0]⟩,
 ⟨some 7,.mov,[.t 14],none,[1,0,1]⟩] false)
def b334k2:DCode :=
 (.seq
 (.block 1
 (.seq
 (.region [⟨some 15,.movv,[.t 0],none,[]⟩,
 ⟨some 16,.mov,[.t 7],none,[]⟩,
 ⟨some 17,(.iaddr 1),[.t 15,.t 16],none,[0,1]⟩,
 ⟨some 18,(.load false 1),[.t 17],none,[2]⟩,
 ⟨some 19,.movv,[.t 1],none,[]⟩,
 ⟨some 20,.mov,[.t 7],none,[]⟩,
 ⟨some 21,.call,[.f 336,.t 19,.t 20],none,[4,5]⟩,
 ⟨some 22,(.bin .sub),[.t 18,.t 21],none,[3,6]⟩,
 ⟨some 23,.mov,[.t 6],none,[]⟩,
 ⟨some 24,(.bin .sub),[.t 22,.t 23],none,[7,8]⟩,
 ⟨some 8,.mov,[.t 24],none,[9,6,0,1,2,3,4,5,6,7,8,9]⟩] true)
 (.seq
 (.region [⟨some 6,.mov,[.c (.int .i64 0)],none,[]⟩] false)
 (.seq
 (.seq
 (.region [⟨some 25,.mov,[.t 8],none,[]⟩,
 ⟨some 26,(.bin .lss),[.t 25,.c (.int .i64 0)],none,[0]⟩] false)
 (.cond (.t 26)
 (.region [⟨some 27,.mov,[.t 8],none,[]⟩,
 ⟨some 28,(.bin .add),[.t 27,.c (.int .i64 1000000000)],none,[0]⟩,
 ⟨some 8,.mov,[.t 28],none,[1,0,1]⟩,
 ⟨some 6,.mov,[.c (.int .i64 1)],none,[2,0,1,2]⟩] false)
 .skip))
 (.keep [0,1,5,6,7,8] [5,32] b334k0)))))
 (.keep [0,1,5,6,7] [5,32] b334k1))
def b334l0:DCode:=.keep [0,1,5,6,7] [5,32]
 (.seq
 (.seq
 (.region [⟨some 9,.mov,[.t 7],none,[]⟩,
 ⟨some 10,.movv,[.t 0],none,[]⟩,
 ⟨some 11,.len,[.t 10],none,[1]⟩,
 ⟨some 12,(.bin .lss),[.t 9,.t 11],none,[0,2]⟩] false)
 (.cond (.t 12)
 .skip
 (.exit 0)))
 (.keep [0,1,5,6,7] [5,32] b334k2))
def b334k3:DCode :=
 (.seq
 (.region [⟨some 33,.movv,[.t 5],none,[]⟩,
 ⟨some 34,.call,[.f 326,.t 33],none,[0]⟩,
 ⟨some 4,.movv,[.t 34],none,[1,1,0,1]⟩] false)
 .ret)
def b334:DCode :=
 (.seq
 (.region [⟨some 4,.mov,[.c (.slc 1 [])],none,[]⟩] false)
 (.seq
 (.region [⟨some 5,(.ntok 1),[.c (.slc 1 [])],none,[]⟩] false)
 (.seq
 (.region [⟨some 6,.mov,[.c (.int .i64 0)],none,[]⟩] false)
 (.seq
 (.seq
 (.region [⟨some 7,.mov,[.c (.int .i64 0)],none,[]⟩] false)
 (.block 0
 (.loop b334l0)))
 (.keep [5] [5,32] b334k3)))))
def d334:DFn:=⟨2,35,[.tmp 4],b334⟩
theorem body334:d334.body=b334:=rfl
theorem res334:d334.res=[.tmp 4]:=rfl
theorem k334:chkFn Tryz.prog Tryz.f334 d334=true:=by kernel_rfl
def b324k0:DCode :=
 (.seq
 (.region [⟨some 45,(.faddr 0 false 1),[.t 3],none,[]⟩,
 ⟨some 46,(.load false 1),[.t 45],none,[0]⟩,
 ⟨some 47,(.faddr 1 false 1),[.t 3],none,[]⟩,
 ⟨some 48,(.load false 1),[.t 47],none,[2]⟩,
 ⟨some 49,(.faddr 1 false 1),[.t 2],none,[]⟩,
 ⟨some 50,(.load false 1),[.t 49],none,[4]⟩,
 ⟨some 51,.call,[.f 334,.t 48,.t 50],none,[3,5]⟩,
 ⟨some 52,.call,[.f 310,.t 46,.t 51],none,[1,6,6]⟩,
 ⟨none,(.store 2),[.t 4,.t 52],none,[7,7,0,1,2,3,4,5,6,7]⟩] true)
 .ret)
def b324k1:DCode :=
 (.seq
 (.seq
 (.region [⟨some 35,.mov,[.t 5],none,[]⟩,
 ⟨some 36,(.bin .gtr),[.t 35,.c (.int .i64 0)],none,[0]⟩] false)
 (.cond (.t 36)
 (.seq
 (.region [⟨some 37,(.faddr 0 false 1),[.t 2],none,[]⟩,
 ⟨some 38,(.load false 1),[.t 37],none,[0]⟩,
 ⟨some 39,(.faddr 1 false 1),[.t 2],none,[]⟩,
 ⟨some 40,(.load false 1),[.t 39],none,[2]⟩,
 ⟨some 41,(.faddr 1 false 1),[.t 3],none,[]⟩,
 ⟨some 42,(.load false 1),[.t 41],none,[4]⟩,
 ⟨some 43,.call,[.f 334,.t 40,.t 42],none,[3,5]⟩,
 ⟨some 44,.call,[.f 310,.t 38,.t 43],none,[1,6,6]⟩,
 ⟨none,(.store 2),[.t 4,.t 44],none,[7,7,0,1,2,3,4,5,6,7]⟩] true)
 .ret)
 .skip))
 (.keep [2,3,4] [2,3,4] b324k0))
def b324k2:DCode :=
 (.seq
 (.region [⟨some 27,(.faddr 1 false 1),[.t 2],none,[]⟩,
 ⟨some 28,(.load false 1),[.t 27],none,[0]⟩,
 ⟨some 29,(.faddr 1 false 1),[.t 3],none,[]⟩,
 ⟨some 30,(.load false 1),[.t 29],none,[2]⟩,
 ⟨some 31,.call,[.f 333,.t 28,.t 30],none,[1,3]⟩,
 ⟨some 5,.mov,[.t 31],none,[4,4,0,1,2,3,4]⟩] false)
 (.seq
 (.seq
 (.region [⟨some 32,.mov,[.t 5],none,[]⟩,
 ⟨some 33,(.bin .eql),[.t 32,.c (.int .i64 0)],none,[0]⟩] false)
 (.cond (.t 33)
 (.seq
 (.region [⟨some 34,(.build [(.imm (.int .i64 0)),(.imm (.slc 1 []))] []),[],none,[]⟩,
 ⟨none,(.store 2),[.t 4,.t 34],none,[0,0]⟩] false)
 .ret)
 .skip))
 (.keep [2,3,4,5] [2,3,4] b324k1)))
def b324k3:DCode :=
 (.seq
 (.seq
 (.region [⟨some 14,(.faddr 0 false 1),[.t 2],none,[]⟩,
 ⟨some 15,(.load false 1),[.t 14],none,[0]⟩,
 ⟨some 16,(.faddr 0 false 1),[.t 3],none,[]⟩,
 ⟨some 17,(.load false 1),[.t 16],none,[2]⟩,
 ⟨some 18,(.bin .eql),[.t 15,.t 17],none,[1,3]⟩] false)
 (.cond (.t 18)
 (.seq
 (.region [⟨some 19,(.faddr 0 false 1),[.t 2],none,[]⟩,
 ⟨some 20,(.load false 1),[.t 19],none,[0]⟩,
 ⟨some 21,(.faddr 1 false 1),[.t 2],none,[]⟩,
 ⟨some 22,(.load false 1),[.t 21],none,[2]⟩,
 ⟨some 23,(.faddr 1 false 1),[.t 3],none,[]⟩,
 ⟨some 24,(.load false 1),[.t 23],none,[4]⟩,
 ⟨some 25,.call,[.f 332,.t 22,.t 24],none,[3,5]⟩,
 ⟨some 26,.call,[.f 310,.t 20,.t 25],none,[1,6,6]⟩,
 ⟨none,(.store 2),[.t 4,.t 26],none,[7,7,0,1,2,3,4,5,6,7]⟩] true)
 .ret)
 .skip))
 (.keep [2,3,4] [2,3,4] b324k2))
def b324k4:DCode :=
 (.seq
 (.seq
 (.region [⟨some 10,(.faddr 0 false 1),[.t 3],none,[]⟩,
 ⟨some 11,(.load false 1),[.t 10],none,[0]⟩,
 ⟨some 12,(.bin .eql),[.t 11,.c (.int .i64 0)],none,[1]⟩] false)
 (.cond (.t 12)
 (.seq
 (.region [⟨some 13,(.load true 2),[.t 2],none,[]⟩,
 ⟨none,(.store 2),[.t 4,.t 13],none,[0,0]⟩] false)
 .ret)
 .skip))
 (.keep [2,3,4] [2,3,4] b324k3))
def b324:DCode :=
 (.seq
 (.region [⟨some 2,.box,[.t 0],none,[]⟩,
 ⟨some 3,.box,[.t 1],none,[]⟩,
 ⟨some 4,(.alloc [(.imm (.int .i64 0)),(.imm (.slc 1 []))]),[],none,[]⟩] false)
 (.seq
 (.seq
 (.region [⟨some 6,(.faddr 0 false 1),[.t 2],none,[]⟩,
 ⟨some 7,(.load false 1),[.t 6],none,[0]⟩,
 ⟨some 8,(.bin .eql),[.t 7,.c (.int .i64 0)],none,[1]⟩] false)
 (.cond (.t 8)
 (.seq
 (.region [⟨some 9,(.load true 2),[.t 3],none,[]⟩,
 ⟨none,(.store 2),[.t 4,.t 9],none,[0,0]⟩] false)
 .ret)
 .skip))
 (.keep [2,3,4] [2,3,4] b324k4)))
def d324:DFn:=⟨2,53,[.cell 4 true 2],b324⟩
theorem body324:d324.body=b324:=rfl
theorem res324:d324.res=[.cell 4 true 2]:=rfl
theorem k324:chkFn Tryz.prog Tryz.f324 d324=true:=by kernel_rfl
def b309:DCode :=
 (.seq
 (.region [⟨some 2,.box,[.t 0],none,[]⟩,
 ⟨some 3,.box,[.t 1],none,[]⟩,
 ⟨some 4,(.alloc [(.imm (.int .i64 0)),(.imm (.slc 1 []))]),[],none,[]⟩] false)
 (.seq
 (.region [⟨some 5,(.load true 2),[.t 2],none,[]⟩,
 ⟨some 6,(.load true 2),[.t 3],none,[]⟩,
 ⟨some 7,.call,[.f 325,.t 6],none,[1]⟩,
 ⟨some 8,.call,[.f 324,.t 5,.t 7],none,[0,2,2]⟩,
 ⟨none,(.store 2),[.t 4,.t 8],none,[3,3,0,1,2,3]⟩] true)
 .ret))
def d309:DFn:=⟨2,9,[.cell 4 true 2],b309⟩
theorem body309:d309.body=b309:=rfl
theorem res309:d309.res=[.cell 4 true 2]:=rfl
theorem k309:chkFn Tryz.prog Tryz.f309 d309=true:=by kernel_rfl
def b274k0:DCode :=
 (.seq
 (.block 3
 (.seq
 (.region [⟨some 33,.movv,[.t 5],none,[]⟩,
 ⟨some 34,.mov,[.t 6],none,[]⟩,
 ⟨some 35,.mov,[.t 8],none,[]⟩,
 ⟨some 36,(.bin .add),[.t 34,.t 35],none,[1,2]⟩,
 ⟨some 37,(.iaddr 1),[.t 33,.t 36],none,[0,3]⟩,
 ⟨some 38,(.load false 1),[.t 37],none,[4]⟩,
 ⟨some 39,(.faddr 1 false 1),[.t 2],none,[]⟩,
 ⟨some 40,(.load false 1),[.t 39],none,[6]⟩,
 ⟨some 41,.mov,[.t 6],none,[]⟩,
 ⟨some 42,(.iaddr 1),[.t 40,.t 41],none,[7,8]⟩,
 ⟨some 43,(.load false 1),[.t 42],none,[9]⟩,
 ⟨some 44,(.faddr 1 false 1),[.t 3],none,[]⟩,
 ⟨some 45,(.load false 1),[.t 44],none,[11]⟩,
 ⟨some 46,.mov,[.t 8],none,[]⟩,
 ⟨some 47,(.iaddr 1),[.t 45,.t 46],none,[12,13]⟩,
 ⟨some 48,(.load false 1),[.t 47],none,[14]⟩,
 ⟨some 49,(.bin .mul),[.t 43,.t 48],none,[10,15]⟩,
 ⟨some 50,(.bin .add),[.t 38,.t 49],none,[5,16]⟩,
 ⟨some 51,.mov,[.t 7],none,[]⟩,
 ⟨some 52,(.bin .add),[.t 50,.t 51],none,[17,18]⟩,
 ⟨some 9,.mov,[.t 52],none,[19,0,1,2,3,4,5,6,7,8,9,10,11,12,13,14,15,16,17,18,19]⟩] true)
 (.region [⟨some 53,.movv,[.t 5],none,[]⟩,
 ⟨some 54,.mov,[.t 6],none,[]⟩,
 ⟨some 55,.mov,[.t 8],none,[]⟩,
 ⟨some 56,(.bin .add),[.t 54,.t 55],none,[1,2]⟩,
 ⟨some 57,.mov,[.t 9],none,[]⟩,
 ⟨some 58,(.bin .rem),[.t 57,.c (.int .i64 1000000000)],none,[4]⟩,
 ⟨some 59,.mov,[.t 9],none,[]⟩,
 ⟨some 60,(.bin .quo),[.t 59,.c (.int .i64 1000000000)],none,[6]⟩,
 ⟨some 61,(.iaddr 1),[.t 53,.t 56],none,[0,3,0,1,2,3,4,5]⟩,
 ⟨none,(.store 1),[.t 61,.t 58],none,[8,5,0,1,2,3,4,5]⟩,
 ⟨some 7,.mov,[.t 60],none,[7,9,0,1,2,3,4,5,6,7,8,9]⟩] false)))
 (.region [⟨some 31,.mov,[.t 8],none,[]⟩,
 ⟨some 32,(.bin .add),[.t 31,.c (.int .i64 1)],none,[0]⟩,
 ⟨some 8,.mov,[.t 32],none,[1,0,1]⟩] false))
def b274l0:DCode:=.keep [2,3,4,5,6,7,8] [2,3,4,18]
 (.seq
 (.seq
 (.region [⟨some 26,.mov,[.t 8],none,[]⟩,
 ⟨some 27,(.faddr 1 false 1),[.t 3],none,[]⟩,
 ⟨some 28,(.load false 1),[.t 27],none,[1]⟩,
 ⟨some 29,.len,[.t 28],none,[2]⟩,
 ⟨some 30,(.bin .lss),[.t 26,.t 29],none,[0,3]⟩] false)
 (.cond (.t 30)
 .skip
 (.exit 2)))
 (.keep [2,3,4,5,6,7,8] [2,3,4,18] b274k0))
def b274k1:DCode :=
 (.region [⟨some 62,.movv,[.t 5],none,[]⟩,
 ⟨some 63,.mov,[.t 6],none,[]⟩,
 ⟨some 64,(.faddr 1 false 1),[.t 3],none,[]⟩,
 ⟨some 65,(.load false 1),[.t 64],none,[2]⟩,
 ⟨some 66,.len,[.t 65],none,[3]⟩,
 ⟨some 67,(.bin .add),[.t 63,.t 66],none,[1,4]⟩,
 ⟨some 68,.movv,[.t 5],none,[]⟩,
 ⟨some 69,.mov,[.t 6],none,[]⟩,
 ⟨some 70,(.faddr 1 false 1),[.t 3],none,[]⟩,
 ⟨some 71,(.load false 1),[.t 70],none,[8]⟩,
 ⟨some 72,.len,[.t 71],none,[9]⟩,
 ⟨some 73,(.bin .add),[.t 69,.t 72],none,[7,10]⟩,
 ⟨some 74,(.iaddr 1),[.t 68,.t 73],none,[6,11]⟩,
 ⟨some 75,(.load false 1),[.t 74],none,[12]⟩,
 ⟨some 76,.mov,[.t 7],none,[]⟩,
 ⟨some 77,(.bin .add),[.t 75,.t 76],none,[13,14]⟩,
 ⟨some 78,(.iaddr 1),[.t 62,.t 67],none,[0,5,0,1,2,3,4,5,6,7,8,9,10,11,12,13,14,15]⟩,
 ⟨none,(.store 1),[.t 78,.t 77],none,[16,15,0,1,2,3,4,5,6,7,8,9,10,11,12,13,14,15]⟩] true)
def b274k2:DCode :=
 (.region [⟨some 24,.mov,[.t 6],none,[]⟩,
 ⟨some 25,(.bin .add),[.t 24,.c (.int .i64 1)],none,[0]⟩,
 ⟨some 6,.mov,[.t 25],none,[1,0,1]⟩] false)
def b274k3:DCode :=
 (.seq
 (.block 1
 (.seq
 (.region [⟨some 7,.mov,[.c (.int .i64 0)],none,[]⟩] false)
 (.seq
 (.seq
 (.region [⟨some 8,.mov,[.c (.int .i64 0)],none,[]⟩] false)
 (.block 2
 (.loop b274l0)))
 (.keep [2,3,4,5,6,7] [2,3,4,18] b274k1))))
 (.keep [2,3,4,5,6] [2,3,4,18] b274k2))
def b274l1:DCode:=.keep [2,3,4,5,6] [2,3,4,18]
 (.seq
 (.seq
 (.region [⟨some 19,.mov,[.t 6],none,[]⟩,
 ⟨some 20,(.faddr 1 false 1),[.t 2],none,[]⟩,
 ⟨some 21,(.load false 1),[.t 20],none,[1]⟩,
 ⟨some 22,.len,[.t 21],none,[2]⟩,
 ⟨some 23,(.bin .lss),[.t 19,.t 22],none,[0,3]⟩] false)
 (.cond (.t 23)
 .skip
 (.exit 0)))
 (.keep [2,3,4,5,6] [2,3,4,18] b274k3))
def b274k4:DCode :=
 (.seq
 (.freeze [18]
 (.region [⟨some 79,(.faddr 0 false 1),[.t 2],none,[]⟩,
 ⟨some 80,(.load false 1),[.t 79],none,[0]⟩,
 ⟨some 81,(.faddr 0 false 1),[.t 3],none,[]⟩,
 ⟨some 82,(.load false 1),[.t 81],none,[2]⟩,
 ⟨some 83,(.bin .mul),[.t 80,.t 82],none,[1,3]⟩,
 ⟨some 84,.movv,[.t 5],none,[]⟩,
 ⟨some 85,.call,[.f 310,.t 83,.t 84],none,[4,5]⟩,
 ⟨none,(.store 2),[.t 4,.t 85],none,[6,6,0,1,2,3,4,5,6]⟩] false))
 .ret)
def b274:DCode :=
 (.seq
 (.region [⟨some 2,.box,[.t 0],none,[]⟩,
 ⟨some 3,.box,[.t 1],none,[]⟩,
 ⟨some 4,(.alloc [(.imm (.int .i64 0)),(.imm (.slc 1 []))]),[],none,[]⟩] false)
 (.seq
 (.region [⟨some 10,(.faddr 1 false 1),[.t 2],none,[]⟩,
 ⟨some 11,(.load false 1),[.t 10],none,[0]⟩,
 ⟨some 12,.len,[.t 11],none,[1]⟩,
 ⟨some 13,(.faddr 1 false 1),[.t 3],none,[]⟩,
 ⟨some 14,(.load false 1),[.t 13],none,[3]⟩,
 ⟨some 15,.len,[.t 14],none,[4]⟩,
 ⟨some 16,(.bin .add),[.t 12,.t 15],none,[2,5]⟩,
 ⟨some 17,(.bin .add),[.t 16,.c (.int .i64 1)],none,[6]⟩,
 ⟨some 18,(.mksl (.int .i64 0) 8),[.t 17,.t 17],none,[7,7]⟩,
 ⟨some 5,.movv,[.t 18],none,[8,0,1,2,3,4,5,6,7,8]⟩] false)
 (.seq
 (.seq
 (.region [⟨some 6,.mov,[.c (.int .i64 0)],none,[]⟩] false)
 (.block 0
 (.loop b274l1)))
 (.keep [2,3,4,5] [2,3,4,18] b274k4))))
def d274:DFn:=⟨2,86,[.cell 4 true 2],b274⟩
theorem body274:d274.body=b274:=rfl
theorem res274:d274.res=[.cell 4 true 2]:=rfl
theorem k274:chkFn Tryz.prog Tryz.f274 d274=true:=by kernel_rfl
def b273:DCode :=
 (.seq
 (.region [⟨some 2,.box,[.t 0],none,[]⟩,
 ⟨some 3,.box,[.t 1],none,[]⟩,
 ⟨some 4,.mov,[.c (.int .i64 0)],none,[]⟩] false)
 (.seq
 (.region [⟨some 5,(.load true 2),[.t 2],none,[]⟩,
 ⟨some 6,(.load true 2),[.t 3],none,[]⟩,
 ⟨some 7,.call,[.f 309,.t 5,.t 6],none,[0,1]⟩,
 ⟨some 8,(.field 0 false 1),[.t 7],none,[2]⟩,
 ⟨some 4,.mov,[.t 8],none,[3,2,0,1,2,3]⟩] false)
 .ret))
def d273:DFn:=⟨2,9,[.tmp 4],b273⟩
theorem body273:d273.body=b273:=rfl
theorem res273:d273.res=[.tmp 4]:=rfl
theorem k273:chkFn Tryz.prog Tryz.f273 d273=true:=by kernel_rfl
def b329k0:DCode :=
 (.block 3
 (.seq
 (.region [⟨some 41,.mov,[.t 8],none,[]⟩,
 ⟨some 42,.mov,[.t 9],none,[]⟩,
 ⟨some 43,(.bin .add),[.t 41,.t 42],none,[0,1]⟩,
 ⟨some 44,(.bin .add),[.t 43,.c (.int .i64 1)],none,[2]⟩,
 ⟨some 45,(.bin .quo),[.t 44,.c (.int .i64 2)],none,[3]⟩,
 ⟨some 10,.mov,[.t 45],none,[4,0,1,2,3,4]⟩] false)
 (.seq
 (.region [⟨some 46,(.faddr 1 false 1),[.t 3],none,[]⟩,
 ⟨some 47,(.load false 1),[.t 46],none,[0]⟩,
 ⟨some 48,.call,[.f 310,.c (.int .i64 1),.t 47],none,[1]⟩,
 ⟨some 49,.mov,[.t 10],none,[]⟩,
 ⟨some 50,.call,[.f 312,.t 49],none,[3,2]⟩,
 ⟨some 51,.call,[.f 274,.t 48,.t 50],none,[2,4,4]⟩,
 ⟨some 52,(.field 1 false 1),[.t 51],none,[5]⟩,
 ⟨some 53,.movv,[.t 6],none,[]⟩,
 ⟨some 54,.call,[.f 333,.t 52,.t 53],none,[6,7,5]⟩,
 ⟨some 55,(.bin .leq),[.t 54,.c (.int .i64 0)],none,[8]⟩] false)
 (.cond (.t 55)
 (.region [⟨some 56,.mov,[.t 10],none,[]⟩,
 ⟨some 8,.mov,[.t 56],none,[0,0]⟩] false)
 (.region [⟨some 57,.mov,[.t 10],none,[]⟩,
 ⟨some 58,(.bin .sub),[.t 57,.c (.int .i64 1)],none,[0]⟩,
 ⟨some 9,.mov,[.t 58],none,[1,0,1]⟩] false)))))
def b329l0:DCode:=.keep [2,3,4,5,6,7,8,9] [2,3,4,19]
 (.seq
 (.seq
 (.region [⟨some 38,.mov,[.t 8],none,[]⟩,
 ⟨some 39,.mov,[.t 9],none,[]⟩,
 ⟨some 40,(.bin .lss),[.t 38,.t 39],none,[0,1]⟩] false)
 (.cond (.t 40)
 .skip
 (.exit 2)))
 (.keep [2,3,4,5,6,7,8,9] [2,3,4,19] b329k0))
def b329k1:DCode :=
 (.seq
 (.region [⟨some 59,.movv,[.t 5],none,[]⟩,
 ⟨some 60,.mov,[.t 7],none,[]⟩,
 ⟨some 61,.mov,[.t 8],none,[]⟩,
 ⟨some 62,(.iaddr 1),[.t 59,.t 60],none,[0,1,0,1,2]⟩,
 ⟨none,(.store 1),[.t 62,.t 61],none,[3,2,0,1,2]⟩] false)
 (.region [⟨some 63,.movv,[.t 6],none,[]⟩,
 ⟨some 64,(.faddr 1 false 1),[.t 3],none,[]⟩,
 ⟨some 65,(.load false 1),[.t 64],none,[1]⟩,
 ⟨some 66,.call,[.f 310,.c (.int .i64 1),.t 65],none,[2]⟩,
 ⟨some 67,.mov,[.t 8],none,[]⟩,
 ⟨some 68,.call,[.f 312,.t 67],none,[4,3]⟩,
 ⟨some 69,.call,[.f 274,.t 66,.t 68],none,[3,5,5]⟩,
 ⟨some 70,(.field 1 false 1),[.t 69],none,[6]⟩,
 ⟨some 71,.call,[.f 334,.t 63,.t 70],none,[0,7,6]⟩,
 ⟨some 6,.movv,[.t 71],none,[8,8,0,1,2,3,4,5,6,7,8]⟩] false))
def b329k2:DCode :=
 (.region [⟨some 27,.mov,[.t 7],none,[]⟩,
 ⟨some 28,(.bin .sub),[.t 27,.c (.int .i64 1)],none,[0]⟩,
 ⟨some 7,.mov,[.t 28],none,[1,0,1]⟩] false)
def b329k3:DCode :=
 (.seq
 (.block 1
 (.seq
 (.region [⟨some 29,(.faddr 1 false 1),[.t 2],none,[]⟩,
 ⟨some 30,(.load false 1),[.t 29],none,[0]⟩,
 ⟨some 31,.mov,[.t 7],none,[]⟩,
 ⟨some 32,(.iaddr 1),[.t 30,.t 31],none,[1,2]⟩,
 ⟨some 33,(.load false 1),[.t 32],none,[3]⟩,
 ⟨some 34,(.bsl 1),[.t 33],none,[4]⟩,
 ⟨some 35,.movv,[.t 6],none,[]⟩,
 ⟨some 36,(.append 1 8 false),[.t 34,.t 35],none,[5,6]⟩,
 ⟨some 37,.call,[.f 326,.t 36],none,[7,7]⟩,
 ⟨some 6,.movv,[.t 37],none,[8,8,0,1,2,3,4,5,6,7,8]⟩] false)
 (.seq
 (.region [⟨some 8,.mov,[.c (.int .i64 0)],none,[]⟩,
 ⟨some 9,.mov,[.c (.int .i64 999999999)],none,[0,0]⟩] false)
 (.seq
 (.block 2
 (.loop b329l0))
 (.keep [2,3,4,5,6,7,8] [2,3,4,19] b329k1)))))
 (.keep [2,3,4,5,6,7] [2,3,4,19] b329k2))
def b329l1:DCode:=.keep [2,3,4,5,6,7] [2,3,4,19]
 (.seq
 (.seq
 (.region [⟨some 25,.mov,[.t 7],none,[]⟩,
 ⟨some 26,(.bin .geq),[.t 25,.c (.int .i64 0)],none,[0]⟩] false)
 (.cond (.t 26)
 .skip
 (.exit 0)))
 (.keep [2,3,4,5,6,7] [2,3,4,19] b329k3))
def b329k4:DCode :=
 (.seq
 (.region [⟨some 87,(.load true 2),[.t 11],none,[]⟩,
 ⟨none,(.store 2),[.t 4,.t 87],none,[0,0]⟩] false)
 .ret)
def b329k5:DCode :=
 (.seq
 (.freeze [19]
 (.region [⟨some 72,(.faddr 0 false 1),[.t 2],none,[]⟩,
 ⟨some 73,(.load false 1),[.t 72],none,[0]⟩,
 ⟨some 74,.movv,[.t 5],none,[]⟩,
 ⟨some 75,.call,[.f 310,.t 73,.t 74],none,[1,2]⟩,
 ⟨some 11,(.alloc [(.imm (.int .i64 0)),(.imm (.slc 1 []))]),[],none,[]⟩,
 ⟨none,(.store 2),[.t 11,.t 75],none,[4,3,3,0,1,2,3,4]⟩] false))
 (.seq
 (.seq
 (.region [⟨some 76,(.faddr 0 false 1),[.t 2],none,[]⟩,
 ⟨some 77,(.load false 1),[.t 76],none,[0]⟩,
 ⟨some 78,(.bin .lss),[.t 77,.c (.int .i64 0)],none,[1]⟩,
 ⟨some 79,.mov,[.t 78],none,[2]⟩,
 ⟨some 80,.movv,[.t 6],(some (79,true)),[3]⟩,
 ⟨some 81,.len,[.t 80],(some (79,true)),[4,3]⟩,
 ⟨some 82,(.bin .gtr),[.t 81,.c (.int .i64 0)],(some (79,true)),[5,3]⟩,
 ⟨some 83,.pick,[.t 79,.t 82,.c (.bool false)],none,[3,6]⟩] false)
 (.cond (.t 83)
 (.region [⟨some 84,(.load true 2),[.t 11],none,[]⟩,
 ⟨some 85,.call,[.f 312,.c (.int .i64 1)],none,[]⟩,
 ⟨some 86,.call,[.f 309,.t 84,.t 85],none,[0,1,1]⟩,
 ⟨none,(.store 2),[.t 11,.t 86],none,[2,2,0,1,2]⟩] true)
 .skip))
 (.keep [4,11] [4,11] b329k4)))
def b329k6:DCode :=
 (.seq
 (.region [⟨some 16,(.faddr 1 false 1),[.t 2],none,[]⟩,
 ⟨some 17,(.load false 1),[.t 16],none,[0]⟩,
 ⟨some 18,.len,[.t 17],none,[1]⟩,
 ⟨some 19,(.mksl (.int .i64 0) 8),[.t 18,.t 18],none,[2,2]⟩,
 ⟨some 20,(.bsl 1),[],none,[]⟩,
 ⟨some 5,.movv,[.t 19],none,[3,0,1,2,3]⟩,
 ⟨some 6,.movv,[.t 20],none,[4,5,0,1,2,3,4,5]⟩] false)
 (.seq
 (.seq
 (.region [⟨some 21,(.faddr 1 false 1),[.t 2],none,[]⟩,
 ⟨some 22,(.load false 1),[.t 21],none,[0]⟩,
 ⟨some 23,.len,[.t 22],none,[1]⟩,
 ⟨some 24,(.bin .sub),[.t 23,.c (.int .i64 1)],none,[2]⟩,
 ⟨some 7,.mov,[.t 24],none,[3,0,1,2,3]⟩] false)
 (.block 0
 (.loop b329l1)))
 (.keep [2,4,5,6] [2,4,19] b329k5)))
def b329:DCode :=
 (.seq
 (.region [⟨some 2,.box,[.t 0],none,[]⟩,
 ⟨some 3,.box,[.t 1],none,[]⟩,
 ⟨some 4,(.alloc [(.imm (.int .i64 0)),(.imm (.slc 1 []))]),[],none,[]⟩] false)
 (.seq
 (.seq
 (.region [⟨some 12,(.faddr 0 false 1),[.t 2],none,[]⟩,
 ⟨some 13,(.load false 1),[.t 12],none,[0]⟩,
 ⟨some 14,(.bin .eql),[.t 13,.c (.int .i64 0)],none,[1]⟩] false)
 (.cond (.t 14)
 (.seq
 (.region [⟨some 15,(.build [(.imm (.int .i64 0)),(.imm (.slc 1 []))] []),[],none,[]⟩,
 ⟨none,(.store 2),[.t 4,.t 15],none,[0,0]⟩] false)
 .ret)
 .skip))
 (.keep [2,3,4] [2,3,4] b329k6)))
def d329:DFn:=⟨2,88,[.cell 4 true 2],b329⟩
theorem body329:d329.body=b329:=rfl
theorem res329:d329.res=[.cell 4 true 2]:=rfl
theorem k329:chkFn Tryz.prog Tryz.f329 d329=true:=by kernel_rfl
def b335k0:DCode :=
 (.seq
 (.region [⟨some 8,(.load true 2),[.t 1],none,[]⟩,
 ⟨none,(.store 2),[.t 2,.t 8],none,[0,0]⟩] false)
 .ret)
def b335:DCode :=
 (.seq
 (.region [⟨some 1,.box,[.t 0],none,[]⟩,
 ⟨some 2,(.alloc [(.imm (.int .i64 0)),(.imm (.slc 1 []))]),[],none,[]⟩] false)
 (.seq
 (.seq
 (.region [⟨some 3,(.faddr 0 false 1),[.t 1],none,[]⟩,
 ⟨some 4,(.load false 1),[.t 3],none,[0]⟩,
 ⟨some 5,(.bin .lss),[.t 4,.c (.int .i64 0)],none,[1]⟩] false)
 (.cond (.t 5)
 (.seq
 (.region [⟨some 6,(.load true 2),[.t 1],none,[]⟩,
 ⟨some 7,.call,[.f 325,.t 6],none,[0]⟩,
 ⟨none,(.store 2),[.t 2,.t 7],none,[1,1,0,1]⟩] false)
 .ret)
 .skip))
 (.keep [1,2] [1,2] b335k0)))
def d335:DFn:=⟨1,9,[.cell 2 true 2],b335⟩
theorem body335:d335.body=b335:=rfl
theorem res335:d335.res=[.cell 2 true 2]:=rfl
theorem k335:chkFn Tryz.prog Tryz.f335 d335=true:=by kernel_rfl
def b328k0:DCode :=
 (.block 1
 (.seq
 (.region [⟨some 13,(.load true 2),[.t 2],none,[]⟩,
 ⟨some 14,(.load true 2),[.t 2],none,[]⟩,
 ⟨some 15,(.load true 2),[.t 3],none,[]⟩,
 ⟨some 16,.call,[.f 329,.t 14,.t 15],none,[1,2]⟩,
 ⟨some 17,(.load true 2),[.t 3],none,[]⟩,
 ⟨some 18,.call,[.f 274,.t 16,.t 17],none,[3,4,3]⟩,
 ⟨some 19,.call,[.f 309,.t 13,.t 18],none,[0,5,5]⟩,
 ⟨some 5,(.alloc [(.imm (.int .i64 0)),(.imm (.slc 1 []))]),[],none,[]⟩,
 ⟨none,(.store 2),[.t 5,.t 19],none,[7,6,6,0,1,2,3,4,5,6,7]⟩] true)
 (.region [⟨some 20,(.loadf true 2 [3]),[.t 3],none,[]⟩,
 ⟨some 21,(.loadf true 2 [5]),[.t 5],none,[]⟩,
 ⟨none,(.storef 2 [2]),[.t 2,.t 20],none,[0,0]⟩,
 ⟨none,(.storef 2 [3]),[.t 3,.t 21],none,[1,2,0,1,2]⟩] true)))
def b328l0:DCode:=.keep [2,3,4] [2,3,4]
 (.seq
 (.seq
 (.region [⟨some 10,(.load true 2),[.t 3],none,[]⟩,
 ⟨some 11,.call,[.f 327,.t 10],none,[0]⟩,
 ⟨some 12,(.bin .neq),[.t 11,.c (.int .i64 0)],none,[1]⟩] false)
 (.cond (.t 12)
 .skip
 (.exit 0)))
 (.keep [2,3,4] [2,3,4] b328k0))
def b328k1:DCode :=
 (.seq
 (.region [⟨some 22,(.load true 2),[.t 2],none,[]⟩,
 ⟨none,(.store 2),[.t 4,.t 22],none,[0,0]⟩] false)
 .ret)
def b328:DCode :=
 (.seq
 (.region [⟨some 2,.box,[.t 0],none,[]⟩,
 ⟨some 3,.box,[.t 1],none,[]⟩,
 ⟨some 4,(.alloc [(.imm (.int .i64 0)),(.imm (.slc 1 []))]),[],none,[]⟩] false)
 (.seq
 (.region [⟨some 6,(.load true 2),[.t 2],none,[]⟩,
 ⟨some 7,.call,[.f 335,.t 6],none,[0]⟩,
 ⟨some 8,(.load true 2),[.t 3],none,[]⟩,
 ⟨some 9,.call,[.f 335,.t 8],none,[2,1]⟩,
 ⟨none,(.store 2),[.t 2,.t 7],none,[1,3,0,1]⟩,
 ⟨none,(.store 2),[.t 3,.t 9],none,[3,4,0,1,2,3,4]⟩] true)
 (.seq
 (.block 0
 (.loop b328l0))
 (.keep [2,4] [2,4] b328k1))))
def d328:DFn:=⟨2,23,[.cell 4 true 2],b328⟩
theorem body328:d328.body=b328:=rfl
theorem res328:d328.res=[.cell 4 true 2]:=rfl
theorem k328:chkFn Tryz.prog Tryz.f328 d328=true:=by kernel_rfl
def b311k0:DCode :=
 (.seq
 (.region [⟨some 23,(.load true 2),[.t 2],none,[]⟩,
 ⟨some 24,(.load true 2),[.t 5],none,[]⟩,
 ⟨some 25,.call,[.f 329,.t 23,.t 24],none,[0,1]⟩,
 ⟨some 26,(.load true 2),[.t 3],none,[]⟩,
 ⟨some 27,(.load true 2),[.t 5],none,[]⟩,
 ⟨some 28,.call,[.f 329,.t 26,.t 27],none,[3,4,2]⟩,
 ⟨some 29,(.build [(.imm (.int .i64 0)),(.imm (.slc 1 [])),(.imm (.int .i64 0)),(.imm (.slc 1 []))] [(0,2),(2,2)]),[.t 25,.t 28],none,[2,5]⟩,
 ⟨none,(.store 4),[.t 4,.t 29],none,[6,5,0,1,2,3,4,5,6]⟩] true)
 .ret)
def b311k1:DCode :=
 (.seq
 (.region [⟨some 13,(.load true 2),[.t 2],none,[]⟩,
 ⟨some 14,(.load true 2),[.t 3],none,[]⟩,
 ⟨some 15,.call,[.f 328,.t 13,.t 14],none,[0,1]⟩,
 ⟨some 5,(.alloc [(.imm (.int .i64 0)),(.imm (.slc 1 []))]),[],none,[]⟩,
 ⟨none,(.store 2),[.t 5,.t 15],none,[3,2,2,0,1,2,3]⟩] false)
 (.seq
 (.seq
 (.region [⟨some 16,(.load true 2),[.t 5],none,[]⟩,
 ⟨some 17,.call,[.f 312,.c (.int .i64 1)],none,[]⟩,
 ⟨some 18,.call,[.f 273,.t 16,.t 17],none,[0,1,1]⟩,
 ⟨some 19,(.bin .eql),[.t 18,.c (.int .i64 0)],none,[2]⟩] true)
 (.cond (.t 19)
 (.seq
 (.region [⟨some 20,(.load true 2),[.t 2],none,[]⟩,
 ⟨some 21,(.load true 2),[.t 3],none,[]⟩,
 ⟨some 22,(.build [(.imm (.int .i64 0)),(.imm (.slc 1 [])),(.imm (.int .i64 0)),(.imm (.slc 1 []))] [(0,2),(2,2)]),[.t 20,.t 21],none,[0,1]⟩,
 ⟨none,(.store 4),[.t 4,.t 22],none,[2,0,1,2]⟩] false)
 .ret)
 .skip))
 (.keep [2,3,4,5] [2,3,4,5] b311k0)))
def b311:DCode :=
 (.seq
 (.region [⟨some 2,.box,[.t 0],none,[]⟩,
 ⟨some 3,.box,[.t 1],none,[]⟩,
 ⟨some 4,(.alloc [(.imm (.int .i64 0)),(.imm (.slc 1 [])),(.imm (.int .i64 0)),(.imm (.slc 1 []))]),[],none,[]⟩] false)
 (.seq
 (.seq
 (.region [⟨some 6,(.load true 2),[.t 3],none,[]⟩,
 ⟨some 7,.call,[.f 327,.t 6],none,[0]⟩,
 ⟨some 8,(.bin .lss),[.t 7,.c (.int .i64 0)],none,[1]⟩] false)
 (.cond (.t 8)
 (.region [⟨some 9,(.load true 2),[.t 2],none,[]⟩,
 ⟨some 10,.call,[.f 325,.t 9],none,[0]⟩,
 ⟨some 11,(.load true 2),[.t 3],none,[]⟩,
 ⟨some 12,.call,[.f 325,.t 11],none,[2,1]⟩,
 ⟨none,(.store 2),[.t 2,.t 10],none,[1,3,0,1]⟩,
 ⟨none,(.store 2),[.t 3,.t 12],none,[3,4,0,1,2,3,4]⟩] true)
 .skip))
 (.keep [2,3,4] [2,3,4] b311k1)))
def d311:DFn:=⟨2,30,[.cell 4 true 4],b311⟩
theorem body311:d311.body=b311:=rfl
theorem res311:d311.res=[.cell 4 true 4]:=rfl
theorem k311:chkFn Tryz.prog Tryz.f311 d311=true:=by kernel_rfl
def b275:DCode :=
 (.seq
 (.region [⟨some 4,(.alloc [(.imm (.int .i64 0)),(.imm (.slc 1 [])),(.imm (.int .i64 0)),(.imm (.slc 1 []))]),[],none,[]⟩] false)
 (.seq
 (.region [⟨some 5,.mov,[.t 0],none,[]⟩,
 ⟨some 6,.call,[.f 312,.t 5],none,[0]⟩,
 ⟨some 7,.mov,[.t 1],none,[]⟩,
 ⟨some 8,.call,[.f 312,.t 7],none,[2,1]⟩,
 ⟨some 9,.call,[.f 311,.t 6,.t 8],none,[1,3,3]⟩,
 ⟨none,(.store 4),[.t 4,.t 9],none,[4,4,0,1,2,3,4]⟩] false)
 .ret))
def d275:DFn:=⟨2,10,[.cell 4 true 4],b275⟩
theorem body275:d275.body=b275:=rfl
theorem res275:d275.res=[.cell 4 true 4]:=rfl
theorem k275:chkFn Tryz.prog Tryz.f275 d275=true:=by kernel_rfl
def b213:DCode :=
 (.seq
 (.region [⟨some 2,.box,[.t 0],none,[]⟩,
 ⟨some 3,.box,[.t 1],none,[]⟩,
 ⟨some 4,.mov,[.c (.int .i64 0)],none,[]⟩] false)
 (.seq
 (.region [⟨some 5,(.faddr 0 true 2),[.t 2],none,[]⟩,
 ⟨some 6,(.load true 2),[.t 5],none,[0]⟩,
 ⟨some 7,(.faddr 2 true 2),[.t 3],none,[]⟩,
 ⟨some 8,(.load true 2),[.t 7],none,[2]⟩,
 ⟨some 9,.call,[.f 274,.t 6,.t 8],none,[1,3]⟩,
 ⟨some 10,(.faddr 0 true 2),[.t 3],none,[]⟩,
 ⟨some 11,(.load true 2),[.t 10],none,[5]⟩,
 ⟨some 12,(.faddr 2 true 2),[.t 2],none,[]⟩,
 ⟨some 13,(.load true 2),[.t 12],none,[7]⟩,
 ⟨some 14,.call,[.f 274,.t 11,.t 13],none,[6,8,4]⟩,
 ⟨some 15,.call,[.f 273,.t 9,.t 14],none,[4,9,9]⟩,
 ⟨some 4,.mov,[.t 15],none,[10,10,0,1,2,3,4,5,6,7,8,9,10]⟩] true)
 .ret))
def d213:DFn:=⟨2,16,[.tmp 4],b213⟩
theorem body213:d213.body=b213:=rfl
theorem res213:d213.res=[.tmp 4]:=rfl
theorem k213:chkFn Tryz.prog Tryz.f213 d213=true:=by kernel_rfl
def b47:DCode :=
 (.seq
 (.region [⟨some 6,.mov,[.c (.bool false)],none,[]⟩] false)
 (.seq
 (.region [⟨some 7,.mov,[.t 1],none,[]⟩,
 ⟨some 8,.mov,[.t 0],none,[]⟩,
 ⟨some 9,(.bin .leq),[.t 7,.t 8],none,[0,1]⟩,
 ⟨some 10,.mov,[.t 9],none,[2]⟩,
 ⟨some 11,.mov,[.t 0],(some (10,true)),[3]⟩,
 ⟨some 12,.mov,[.t 2],(some (10,true)),[3]⟩,
 ⟨some 13,(.bin .leq),[.t 11,.t 12],(some (10,true)),[4,5,3]⟩,
 ⟨some 14,.pick,[.t 10,.t 13,.c (.bool false)],none,[3,6]⟩,
 ⟨some 6,.mov,[.t 14],none,[7,3,0,1,2,3,4,5,6,7]⟩] false)
 .ret))
def d47:DFn:=⟨3,15,[.tmp 6],b47⟩
theorem body47:d47.body=b47:=rfl
theorem res47:d47.res=[.tmp 6]:=rfl
theorem k47:chkFn Tryz.prog Tryz.f47 d47=true:=by kernel_rfl
def b52:DCode :=
 (.seq
 (.region [⟨some 2,.mov,[.c (.slc 1 [])],none,[]⟩] false)
 (.seq
 (.region [⟨some 3,(.bsl 1),[],none,[]⟩,
 ⟨some 4,.movv,[.t 0],none,[]⟩,
 ⟨some 5,(.append 1 8 false),[.t 3,.t 4],none,[0,1]⟩,
 ⟨some 2,.movv,[.t 5],none,[2,2,0,1,2]⟩] false)
 .ret))
def d52:DFn:=⟨1,6,[.tmp 2],b52⟩
theorem body52:d52.body=b52:=rfl
theorem res52:d52.res=[.tmp 2]:=rfl
theorem k52:chkFn Tryz.prog Tryz.f52 d52=true:=by kernel_rfl
end Go.DI


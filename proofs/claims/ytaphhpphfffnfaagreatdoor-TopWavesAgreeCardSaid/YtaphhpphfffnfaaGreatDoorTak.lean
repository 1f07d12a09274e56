/- The functions of matrices and oscillations of waves, as data. No condition. -/
import Derived.Test.YtaphhpphfffnfaaGreatDoorTaGe
import Derived.Test.YtaphhpphfffnfaaGreatDoorProg
import Derived.KernelRfl
namespace Go.DI
open Go.Proofs Go.RowKit
def b139:DCode :=
 (.seq
 (.region [⟨some 2,.mov,[.c (.cpx .f64 0 0)],none,[]⟩] false)
 (.seq
 (.region [⟨some 3,(.build [(.imm (.cpx .f64 0 0)),(.imm (.cpx .f64 0 0)),(.imm (.cpx .f64 0 0)),(.imm (.cpx .f64 0 0))] [(0,1),(1,1),(2,1),(3,1)]),[.c (.cpx .f64 4607182418800017408 0),.c (.cpx .f64 0 4607182418800017408),.c (.cpx .f64 13830554455654793216 0),.c (.cpx .f64 0 13830554455654793216)],none,[]⟩,
 ⟨some 4,.mov,[.t 0],none,[]⟩,
 ⟨some 5,(.bin .rem),[.t 4,.c (.int .i64 4)],none,[1]⟩,
 ⟨some 6,(.bin .add),[.t 5,.c (.int .i64 4)],none,[2]⟩,
 ⟨some 7,(.bin .rem),[.t 6,.c (.int .i64 4)],none,[3]⟩,
 ⟨some 8,(.index 4 1 false),[.t 3,.t 7],none,[0,4]⟩,
 ⟨some 2,.mov,[.t 8],none,[5,0,1,2,3,4,5]⟩] false)
 .ret))
def d139:DFn:=⟨1,9,[.tmp 2],b139⟩
theorem body139:d139.body=b139:=rfl
theorem res139:d139.res=[.tmp 2]:=rfl
theorem k139:chkFn Tryz.prog Tryz.f139 d139=true:=by kernel_rfl
def b138:DCode :=
 (.seq
 (.region [⟨some 2,(.alloc [(.imm (.int .i64 0)),(.imm (.int .i64 0))]),[],none,[]⟩] false)
 (.seq
 (.region [⟨some 3,.mov,[.t 0],none,[]⟩,
 ⟨some 4,(.px .re),[.t 3],none,[0]⟩,
 ⟨some 5,(.px (.f2i .i64)),[.t 4],none,[1]⟩,
 ⟨some 6,.mov,[.t 0],none,[]⟩,
 ⟨some 7,(.px .im),[.t 6],none,[3]⟩,
 ⟨some 8,(.px (.f2i .i64)),[.t 7],none,[4]⟩,
 ⟨some 9,(.build [(.imm (.int .i64 0)),(.imm (.int .i64 0))] [(0,1),(1,1)]),[.t 5,.t 8],none,[2,5]⟩,
 ⟨none,(.store 2),[.t 2,.t 9],none,[6,0,1,2,3,4,5,6]⟩] false)
 .ret))
def d138:DFn:=⟨1,10,[.cell 2 true 2],b138⟩
theorem body138:d138.body=b138:=rfl
theorem res138:d138.res=[.cell 2 true 2]:=rfl
theorem k138:chkFn Tryz.prog Tryz.f138 d138=true:=by kernel_rfl
def b137:DCode :=
 (.seq
 (.region [⟨some 1,.box,[.t 0],none,[]⟩,
 ⟨some 2,.mov,[.c (.cpx .f64 0 0)],none,[]⟩] false)
 (.seq
 (.region [⟨some 3,(.faddr 0 false 1),[.t 1],none,[]⟩,
 ⟨some 4,(.load false 1),[.t 3],none,[0]⟩,
 ⟨some 5,(.px (.i2f .f64)),[.t 4],none,[1]⟩,
 ⟨some 6,(.faddr 1 false 1),[.t 1],none,[]⟩,
 ⟨some 7,(.load false 1),[.t 6],none,[3]⟩,
 ⟨some 8,(.px (.i2f .f64)),[.t 7],none,[4]⟩,
 ⟨some 9,(.px .cplx),[.t 5,.t 8],none,[2,5]⟩,
 ⟨some 2,.mov,[.t 9],none,[6,0,1,2,3,4,5,6]⟩] false)
 .ret))
def d137:DFn:=⟨1,10,[.tmp 2],b137⟩
theorem body137:d137.body=b137:=rfl
theorem res137:d137.res=[.tmp 2]:=rfl
theorem k137:chkFn Tryz.prog Tryz.f137 d137=true:=by kernel_rfl
def b154k0:DCode :=
 (.block 3
 (.region [⟨some 14,.mov,[.t 5],none,[]⟩,
 ⟨some 15,.mov,[.t 3],none,[]⟩,
 ⟨some 16,.mov,[.t 5],none,[]⟩,
 ⟨some 17,(.bin .rem),[.t 15,.t 16],none,[1,2]⟩,
 ⟨some 3,.mov,[.t 14],none,[0,0,1]⟩,
 ⟨some 5,.mov,[.t 17],none,[3,4,0,1,2,3,4]⟩] true))
def b154l0:DCode:=.keep [3,5,6,7,8] []
 (.seq
 (.seq
 (.region [⟨some 12,.mov,[.t 5],none,[]⟩,
 ⟨some 13,(.bin .neq),[.t 12,.c (.int .i64 0)],none,[0]⟩] false)
 (.cond (.t 13)
 .skip
 (.exit 2)))
 (.keep [3,5,6,7,8] [] b154k0))
def b154k1:DCode :=
 (.region [⟨some 18,(.bin .add),[.t 8,.c (.int .i64 1)],none,[]⟩,
 ⟨some 8,.mov,[.t 18],none,[0]⟩] false)
def b154k2:DCode :=
 (.seq
 (.block 1
 (.seq
 (.region [⟨some 10,(.iaddr 1),[.t 6,.t 8],none,[]⟩,
 ⟨some 11,(.load false 1),[.t 10],none,[0]⟩,
 ⟨some 5,.mov,[.t 11],none,[1,0,1]⟩] false)
 (.block 2
 (.loop b154l0))))
 (.keep [3,6,7,8] [] b154k1))
def b154l1:DCode:=.keep [3,6,7,8] []
 (.seq
 (.region [⟨some 9,(.bin .lss),[.t 8,.t 7],none,[]⟩] false)
 (.seq
 (.cond (.t 9)
 .skip
 (.exit 0))
 (.keep [3,6,7,8] [] b154k2)))
def b154k3:DCode :=
 (.seq
 (.region [⟨some 19,.mov,[.t 3],none,[]⟩,
 ⟨some 20,.mov,[.t 3],none,[]⟩,
 ⟨some 21,(.un .neg),[.t 20],none,[1]⟩,
 ⟨some 22,(.mm true),[.t 19,.t 21],none,[0,2]⟩,
 ⟨some 2,.mov,[.t 22],none,[3,0,1,2,3]⟩] false)
 .ret)
def b154:DCode :=
 (.seq
 (.region [⟨some 2,.mov,[.c (.int .i64 0)],none,[]⟩] false)
 (.seq
 (.region [⟨some 3,.mov,[.c (.int .i64 0)],none,[]⟩] false)
 (.seq
 (.seq
 (.region [⟨some 6,.movv,[.t 0],none,[]⟩,
 ⟨some 7,.len,[.t 6],none,[0]⟩,
 ⟨some 8,.mov,[.c (.int .i64 0)],none,[]⟩] false)
 (.block 0
 (.loop b154l1)))
 (.keep [3] [] b154k3))))
def d154:DFn:=⟨1,23,[.tmp 2],b154⟩
theorem body154:d154.body=b154:=rfl
theorem res154:d154.res=[.tmp 2]:=rfl
theorem k154:chkFn Tryz.prog Tryz.f154 d154=true:=by kernel_rfl
def b146:DCode :=
 (.seq
 (.region [⟨some 2,.mov,[.c (.int .i64 0)],none,[]⟩] false)
 (.seq
 (.region [⟨some 3,.mov,[.t 0],none,[]⟩,
 ⟨some 4,.call,[.f 148,.t 3,.c (.int .i64 0),.c (.int .i64 3)],none,[0]⟩,
 ⟨some 5,.call,[.f 135,.t 4,.c (.int .i64 2)],none,[1,1]⟩,
 ⟨some 2,.mov,[.t 5],none,[2,2,0,1,2]⟩] false)
 .ret))
def d146:DFn:=⟨1,6,[.tmp 2],b146⟩
theorem body146:d146.body=b146:=rfl
theorem res146:d146.res=[.tmp 2]:=rfl
theorem k146:chkFn Tryz.prog Tryz.f146 d146=true:=by kernel_rfl
def b133:DCode :=
 (.seq
 (.region [⟨some 2,.box,[.t 0],none,[]⟩,
 ⟨some 4,(.alloc [(.imm (.slc 2 [])),(.imm (.slc 1 [])),(.imm (.slc 1 [])),(.imm (.int .i64 0))]),[],none,[]⟩,
 ⟨some 5,.mov,[.c (.int .i64 0)],none,[]⟩] false)
 (.seq
 (.region [⟨some 9,(.load true 2),[.t 2],none,[]⟩,
 ⟨some 10,.call,[.f 145,.t 9],none,[0]⟩,
 ⟨some 8,.mov,[.t 10],none,[1]⟩,
 ⟨some 11,(.ext 0),[.t 8],none,[2]⟩,
 ⟨some 12,(.ext 1),[.t 8],none,[2]⟩,
 ⟨some 6,(.alloc [(.imm (.slc 2 [])),(.imm (.slc 1 [])),(.imm (.slc 1 [])),(.imm (.int .i64 0))]),[],none,[]⟩,
 ⟨none,(.store 4),[.t 6,.t 11],none,[5,3,1,0,1,2,3,5]⟩,
 ⟨some 7,.mov,[.t 12],none,[4,6,0,1,2,3,4,5,6]⟩] false)
 (.seq
 (.region [⟨some 13,(.load true 4),[.t 6],none,[]⟩,
 ⟨some 14,.mov,[.t 7],none,[]⟩,
 ⟨some 15,.mov,[.t 1],none,[]⟩,
 ⟨some 16,.call,[.f 146,.t 15],none,[2]⟩,
 ⟨some 17,(.bsl 1),[.t 14,.t 16],none,[1,3]⟩,
 ⟨some 18,.call,[.f 134,.t 17],none,[4,3]⟩,
 ⟨none,(.store 4),[.t 4,.t 13],none,[0,5,0]⟩,
 ⟨some 5,.mov,[.t 18],none,[5,6,0,1,2,3,4,5,6]⟩] true)
 .ret)))
def d133:DFn:=⟨2,19,[.cell 4 true 4,.tmp 5],b133⟩
theorem body133:d133.body=b133:=rfl
theorem res133:d133.res=[.cell 4 true 4,.tmp 5]:=rfl
theorem k133:chkFn Tryz.prog Tryz.f133 d133=true:=by kernel_rfl
def b254k0:DCode :=
 (.seq
 (.block 5
 (.seq
 (.region [⟨some 23,.mov,[.t 21],none,[]⟩,
 ⟨some 8,.mov,[.t 23],none,[0,0]⟩] false)
 (.region [⟨some 24,.mov,[.t 6],none,[]⟩,
 ⟨some 25,.mov,[.t 7],none,[]⟩,
 ⟨some 26,(.faddr 0 true 4),[.t 5],none,[]⟩,
 ⟨some 27,(.iarr 2 2 true),[.t 26,.t 24],none,[2,0]⟩,
 ⟨some 28,(.iarr 2 1 false),[.t 27,.t 25],none,[3,1]⟩,
 ⟨some 29,(.load false 1),[.t 28],none,[4]⟩,
 ⟨some 30,.mov,[.t 6],none,[]⟩,
 ⟨some 31,.mov,[.t 8],none,[]⟩,
 ⟨some 32,(.faddr 0 true 4),[.t 2],none,[]⟩,
 ⟨some 33,(.iarr 2 2 true),[.t 32,.t 30],none,[8,6]⟩,
 ⟨some 34,(.iarr 2 1 false),[.t 33,.t 31],none,[9,7]⟩,
 ⟨some 35,(.load false 1),[.t 34],none,[10]⟩,
 ⟨some 36,.mov,[.t 8],none,[]⟩,
 ⟨some 37,.mov,[.t 7],none,[]⟩,
 ⟨some 38,(.faddr 0 true 4),[.t 3],none,[]⟩,
 ⟨some 39,(.iarr 2 2 true),[.t 38,.t 36],none,[14,12]⟩,
 ⟨some 40,(.iarr 2 1 false),[.t 39,.t 37],none,[15,13]⟩,
 ⟨some 41,(.load false 1),[.t 40],none,[16]⟩,
 ⟨some 42,(.px (.cpx .mul)),[.t 35,.t 41],none,[11,17]⟩,
 ⟨some 43,(.px (.cpx .add)),[.t 29,.t 42],none,[5,18]⟩,
 ⟨some 44,(.faddr 0 true 4),[.t 5],none,[]⟩,
 ⟨some 45,(.iarr 2 2 true),[.t 44,.t 24],none,[20,0]⟩,
 ⟨some 46,(.iarr 2 1 false),[.t 45,.t 25],none,[21,1,0,1,2,3,4,5,6,7,8,9,10,11,12,13,14,15,16,17,18,19]⟩,
 ⟨none,(.store 1),[.t 46,.t 43],none,[22,19,0,1,2,3,4,5,6,7,8,9,10,11,12,13,14,15,16,17,18,19]⟩] true)))
 (.region [⟨some 47,(.bin .add),[.t 21,.c (.int .i64 1)],none,[]⟩,
 ⟨some 21,.mov,[.t 47],none,[0]⟩] false))
def b254l0:DCode:=.keep [2,3,4,5,6,7,15,18,21] [2,3,4,5]
 (.seq
 (.region [⟨some 22,(.bin .lss),[.t 21,.c (.int .i64 2)],none,[]⟩] false)
 (.seq
 (.cond (.t 22)
 .skip
 (.exit 4))
 (.keep [2,3,4,5,6,7,15,18,21] [2,3,4,5] b254k0)))
def b254k1:DCode :=
 (.region [⟨some 48,(.bin .add),[.t 18,.c (.int .i64 1)],none,[]⟩,
 ⟨some 18,.mov,[.t 48],none,[0]⟩] false)
def b254k2:DCode :=
 (.seq
 (.block 3
 (.seq
 (.region [⟨some 20,.mov,[.t 18],none,[]⟩,
 ⟨some 7,.mov,[.t 20],none,[0,0]⟩] false)
 (.seq
 (.region [⟨some 21,.mov,[.c (.int .i64 0)],none,[]⟩] false)
 (.block 4
 (.loop b254l0)))))
 (.keep [2,3,4,5,6,15,18] [2,3,4,5] b254k1))
def b254l1:DCode:=.keep [2,3,4,5,6,15,18] [2,3,4,5]
 (.seq
 (.region [⟨some 19,(.bin .lss),[.t 18,.c (.int .i64 2)],none,[]⟩] false)
 (.seq
 (.cond (.t 19)
 .skip
 (.exit 2))
 (.keep [2,3,4,5,6,15,18] [2,3,4,5] b254k2)))
def b254k3:DCode :=
 (.region [⟨some 49,(.bin .add),[.t 15,.c (.int .i64 1)],none,[]⟩,
 ⟨some 15,.mov,[.t 49],none,[0]⟩] false)
def b254k4:DCode :=
 (.seq
 (.block 1
 (.seq
 (.region [⟨some 17,.mov,[.t 15],none,[]⟩,
 ⟨some 6,.mov,[.t 17],none,[0,0]⟩] false)
 (.seq
 (.region [⟨some 18,.mov,[.c (.int .i64 0)],none,[]⟩] false)
 (.block 2
 (.loop b254l1)))))
 (.keep [2,3,4,5,15] [2,3,4,5] b254k3))
def b254l2:DCode:=.keep [2,3,4,5,15] [2,3,4,5]
 (.seq
 (.region [⟨some 16,(.bin .lss),[.t 15,.c (.int .i64 2)],none,[]⟩] false)
 (.seq
 (.cond (.t 16)
 .skip
 (.exit 0))
 (.keep [2,3,4,5,15] [2,3,4,5] b254k4)))
def b254k5:DCode :=
 (.seq
 (.region [⟨some 50,(.load true 5),[.t 5],none,[]⟩,
 ⟨none,(.store 5),[.t 4,.t 50],none,[0,0]⟩] false)
 .ret)
def b254:DCode :=
 (.seq
 (.region [⟨some 2,.box,[.t 0],none,[]⟩,
 ⟨some 3,.box,[.t 1],none,[]⟩,
 ⟨some 4,(.alloc [(.imm (.cpx .f64 0 0)),(.imm (.cpx .f64 0 0)),(.imm (.cpx .f64 0 0)),(.imm (.cpx .f64 0 0)),(.imm (.int .i64 0))]),[],none,[]⟩] false)
 (.seq
 (.region [⟨some 9,(.faddr 4 false 1),[.t 2],none,[]⟩,
 ⟨some 10,(.load false 1),[.t 9],none,[0]⟩,
 ⟨some 11,(.faddr 4 false 1),[.t 3],none,[]⟩,
 ⟨some 12,(.load false 1),[.t 11],none,[2]⟩,
 ⟨some 13,(.bin .mul),[.t 10,.t 12],none,[1,3]⟩,
 ⟨some 14,(.build [(.imm (.cpx .f64 0 0)),(.imm (.cpx .f64 0 0)),(.imm (.cpx .f64 0 0)),(.imm (.cpx .f64 0 0)),(.imm (.int .i64 0))] [(4,1)]),[.t 13],none,[4]⟩,
 ⟨some 5,(.alloc [(.imm (.cpx .f64 0 0)),(.imm (.cpx .f64 0 0)),(.imm (.cpx .f64 0 0)),(.imm (.cpx .f64 0 0)),(.imm (.int .i64 0))]),[],none,[]⟩,
 ⟨none,(.store 5),[.t 5,.t 14],none,[6,5,0,1,2,3,4,5,6]⟩] false)
 (.seq
 (.seq
 (.region [⟨some 15,.mov,[.c (.int .i64 0)],none,[]⟩] false)
 (.block 0
 (.loop b254l2)))
 (.keep [4,5] [4,5] b254k5))))
def d254:DFn:=⟨2,51,[.cell 4 true 5],b254⟩
theorem body254:d254.body=b254:=rfl
theorem res254:d254.res=[.cell 4 true 5]:=rfl
theorem k254:chkFn Tryz.prog Tryz.f254 d254=true:=by kernel_rfl
def b141:DCode :=
 (.seq
 (.region [⟨some 2,.mov,[.c (.cpx .f64 0 0)],none,[]⟩] false)
 (.seq
 (.region [⟨some 3,.mov,[.t 0],none,[]⟩,
 ⟨some 4,.call,[.f 139,.t 3],none,[0]⟩,
 ⟨some 5,(.px .re),[.t 4],none,[1]⟩,
 ⟨some 6,(.px .cplx),[.t 5,.c (.flt .f64 0)],none,[2]⟩,
 ⟨some 2,.mov,[.t 6],none,[3,1,0,1,2,3]⟩] false)
 .ret))
def d141:DFn:=⟨1,7,[.tmp 2],b141⟩
theorem body141:d141.body=b141:=rfl
theorem res141:d141.res=[.tmp 2]:=rfl
theorem k141:chkFn Tryz.prog Tryz.f141 d141=true:=by kernel_rfl
def b142:DCode :=
 (.seq
 (.region [⟨some 2,.mov,[.c (.cpx .f64 0 0)],none,[]⟩] false)
 (.seq
 (.region [⟨some 3,.mov,[.t 0],none,[]⟩,
 ⟨some 4,.call,[.f 139,.t 3],none,[0]⟩,
 ⟨some 5,(.px .im),[.t 4],none,[1]⟩,
 ⟨some 6,(.px .cplx),[.t 5,.c (.flt .f64 0)],none,[2]⟩,
 ⟨some 2,.mov,[.t 6],none,[3,1,0,1,2,3]⟩] false)
 .ret))
def d142:DFn:=⟨1,7,[.tmp 2],b142⟩
theorem body142:d142.body=b142:=rfl
theorem res142:d142.res=[.tmp 2]:=rfl
theorem k142:chkFn Tryz.prog Tryz.f142 d142=true:=by kernel_rfl
def b253:DCode :=
 (.seq
 (.region [⟨some 2,.box,[.t 0],none,[]⟩,
 ⟨some 4,(.alloc [(.imm (.cpx .f64 0 0)),(.imm (.cpx .f64 0 0)),(.imm (.cpx .f64 0 0)),(.imm (.cpx .f64 0 0)),(.imm (.int .i64 0))]),[],none,[]⟩] false)
 (.seq
 (.region [⟨some 8,(.faddr 1 false 1),[.t 2],none,[]⟩,
 ⟨some 9,(.load false 1),[.t 8],none,[0]⟩,
 ⟨some 10,(.px (.i2f .f64)),[.t 9],none,[1]⟩,
 ⟨some 11,(.px .cplx),[.t 10,.c (.flt .f64 0)],none,[2]⟩,
 ⟨some 5,.mov,[.t 11],none,[3,0,1,2,3]⟩] false)
 (.seq
 (.region [⟨some 12,.mov,[.t 1],none,[]⟩,
 ⟨some 13,(.faddr 0 false 1),[.t 2],none,[]⟩,
 ⟨some 14,(.load false 1),[.t 13],none,[1]⟩,
 ⟨some 15,(.bin .mul),[.t 12,.t 14],none,[0,2]⟩,
 ⟨some 16,.call,[.f 141,.t 15],none,[3]⟩,
 ⟨some 17,.mov,[.t 1],none,[]⟩,
 ⟨some 18,(.faddr 0 false 1),[.t 2],none,[]⟩,
 ⟨some 19,(.load false 1),[.t 18],none,[6]⟩,
 ⟨some 20,(.bin .mul),[.t 17,.t 19],none,[5,7]⟩,
 ⟨some 21,.call,[.f 142,.t 20],none,[8,4]⟩,
 ⟨some 6,.mov,[.t 16],none,[4,9,0,1,2,3,4]⟩,
 ⟨some 7,.mov,[.t 21],none,[9,10,0,1,2,3,4,5,6,7,8,9,10]⟩] true)
 (.seq
 (.region [⟨some 22,.mov,[.t 6],none,[]⟩,
 ⟨some 23,.mov,[.t 5],none,[]⟩,
 ⟨some 24,(.px (.cpx .mul)),[.t 22,.t 23],none,[0,1]⟩,
 ⟨some 25,.mov,[.t 7],none,[]⟩,
 ⟨some 26,(.px (.cpx .mul)),[.c (.cpx .f64 0 13830554455654793216),.t 25],none,[3]⟩,
 ⟨some 27,(.build [(.imm (.cpx .f64 0 0)),(.imm (.cpx .f64 0 0))] [(0,1),(1,1)]),[.t 24,.t 26],none,[2,4]⟩,
 ⟨some 28,.mov,[.t 7],none,[]⟩,
 ⟨some 29,(.px (.cpx .mul)),[.c (.cpx .f64 0 13830554455654793216),.t 28],none,[6]⟩,
 ⟨some 30,.mov,[.t 5],none,[]⟩,
 ⟨some 31,(.px (.cpx .mul)),[.t 29,.t 30],none,[7,8]⟩,
 ⟨some 32,.mov,[.t 5],none,[]⟩,
 ⟨some 33,(.px (.cpx .mul)),[.t 31,.t 32],none,[9,10]⟩,
 ⟨some 34,.mov,[.t 6],none,[]⟩,
 ⟨some 35,.mov,[.t 5],none,[]⟩,
 ⟨some 36,(.px (.cpx .mul)),[.t 34,.t 35],none,[12,13]⟩,
 ⟨some 37,(.build [(.imm (.cpx .f64 0 0)),(.imm (.cpx .f64 0 0))] [(0,1),(1,1)]),[.t 33,.t 36],none,[11,14]⟩,
 ⟨some 38,(.build [(.imm (.cpx .f64 0 0)),(.imm (.cpx .f64 0 0)),(.imm (.cpx .f64 0 0)),(.imm (.cpx .f64 0 0))] [(0,2),(2,2)]),[.t 27,.t 37],none,[5,15]⟩,
 ⟨some 39,(.faddr 1 false 1),[.t 2],none,[]⟩,
 ⟨some 40,(.load false 1),[.t 39],none,[17]⟩,
 ⟨some 41,(.build [(.imm (.cpx .f64 0 0)),(.imm (.cpx .f64 0 0)),(.imm (.cpx .f64 0 0)),(.imm (.cpx .f64 0 0)),(.imm (.int .i64 0))] [(0,4),(4,1)]),[.t 38,.t 40],none,[16,18]⟩,
 ⟨none,(.store 5),[.t 4,.t 41],none,[19,0,1,2,3,4,5,6,7,8,9,10,11,12,13,14,15,16,17,18,19]⟩] false)
 .ret))))
def d253:DFn:=⟨2,42,[.cell 4 true 5],b253⟩
theorem body253:d253.body=b253:=rfl
theorem res253:d253.res=[.cell 4 true 5]:=rfl
theorem k253:chkFn Tryz.prog Tryz.f253 d253=true:=by kernel_rfl
def b255:DCode :=
 (.seq
 (.region [⟨some 4,(.alloc [(.imm (.cpx .f64 0 0)),(.imm (.cpx .f64 0 0)),(.imm (.cpx .f64 0 0)),(.imm (.cpx .f64 0 0)),(.imm (.int .i64 0))]),[],none,[]⟩] false)
 (.seq
 (.region [⟨some 5,(.build [(.imm (.cpx .f64 0 0)),(.imm (.cpx .f64 0 0))] [(0,1),(1,1)]),[.c (.cpx .f64 4607182418800017408 0),.c (.cpx .f64 0 0)],none,[]⟩,
 ⟨some 6,.mov,[.t 0],none,[]⟩,
 ⟨some 7,(.px (.i2f .f64)),[.t 6],none,[1]⟩,
 ⟨some 8,(.px .cplx),[.t 7,.c (.flt .f64 0)],none,[2]⟩,
 ⟨some 9,(.px .neg),[.t 8],none,[3]⟩,
 ⟨some 10,.mov,[.t 1],none,[]⟩,
 ⟨some 11,(.un .neg),[.t 10],none,[5]⟩,
 ⟨some 12,.call,[.f 139,.t 11],none,[6]⟩,
 ⟨some 13,(.px (.cpx .sub)),[.c (.cpx .f64 4607182418800017408 0),.t 12],none,[7]⟩,
 ⟨some 14,(.px (.cpx .mul)),[.t 9,.t 13],none,[4,8]⟩,
 ⟨some 15,(.build [(.imm (.cpx .f64 0 0)),(.imm (.cpx .f64 0 0))] [(0,1),(1,1)]),[.t 14,.c (.cpx .f64 4607182418800017408 0)],none,[9]⟩,
 ⟨some 16,(.build [(.imm (.cpx .f64 0 0)),(.imm (.cpx .f64 0 0)),(.imm (.cpx .f64 0 0)),(.imm (.cpx .f64 0 0))] [(0,2),(2,2)]),[.t 5,.t 15],none,[0,10]⟩,
 ⟨some 17,(.build [(.imm (.cpx .f64 0 0)),(.imm (.cpx .f64 0 0)),(.imm (.cpx .f64 0 0)),(.imm (.cpx .f64 0 0)),(.imm (.int .i64 0))] [(0,4),(4,1)]),[.t 16,.c (.int .i64 1)],none,[11]⟩,
 ⟨none,(.store 5),[.t 4,.t 17],none,[12,7,0,1,2,3,4,5,6,7,8,9,10,11,12]⟩] false)
 .ret))
def d255:DFn:=⟨2,18,[.cell 4 true 5],b255⟩
theorem body255:d255.body=b255:=rfl
theorem res255:d255.res=[.cell 4 true 5]:=rfl
theorem k255:chkFn Tryz.prog Tryz.f255 d255=true:=by kernel_rfl
def b191k0:DCode :=
 (.seq
 (.block 1
 (.seq
 (.region [⟨some 21,.mov,[.t 19],none,[]⟩,
 ⟨some 22,(.iaddr 1),[.t 17,.t 19],none,[]⟩,
 ⟨some 23,(.load false 1),[.t 22],none,[1]⟩,
 ⟨some 6,.mov,[.t 21],none,[0,0,1,2]⟩,
 ⟨some 7,.mov,[.t 23],none,[2,3,0,1,2,3]⟩] false)
 (.region [⟨some 24,(.faddr 0 true 2),[.t 2],none,[]⟩,
 ⟨some 25,(.faddr 0 false 1),[.t 24],none,[0]⟩,
 ⟨some 26,(.load false 1),[.t 25],none,[1]⟩,
 ⟨some 27,.mov,[.t 6],none,[]⟩,
 ⟨some 28,(.bin .add),[.t 27,.c (.int .i64 1)],none,[3]⟩,
 ⟨some 29,(.iaddr 2),[.t 26,.t 28],none,[2,4]⟩,
 ⟨some 30,(.load true 2),[.t 29],none,[5]⟩,
 ⟨some 31,.mov,[.t 1],none,[]⟩,
 ⟨some 32,.call,[.f 253,.t 30,.t 31],none,[6,7]⟩,
 ⟨some 33,.mov,[.t 7],none,[]⟩,
 ⟨some 34,.mov,[.t 1],none,[]⟩,
 ⟨some 35,.call,[.f 255,.t 33,.t 34],none,[9,10,8]⟩,
 ⟨some 36,(.load true 5),[.t 5],none,[]⟩,
 ⟨some 37,.call,[.f 254,.t 35,.t 36],none,[11,12,11]⟩,
 ⟨some 38,.call,[.f 254,.t 32,.t 37],none,[8,13,13]⟩,
 ⟨none,(.store 5),[.t 5,.t 38],none,[14,14,0,1,2,3,4,5,6,7,8,9,10,11,12,13,14]⟩] true)))
 (.region [⟨some 39,(.bin .add),[.t 19,.c (.int .i64 1)],none,[]⟩,
 ⟨some 19,.mov,[.t 39],none,[0]⟩] false))
def b191l0:DCode:=.keep [1,2,4,5,17,18,19] [2,4,5]
 (.seq
 (.region [⟨some 20,(.bin .lss),[.t 19,.t 18],none,[]⟩] false)
 (.seq
 (.cond (.t 20)
 .skip
 (.exit 0))
 (.keep [1,2,4,5,17,18,19] [2,4,5] b191k0)))
def b191k1:DCode :=
 (.seq
 (.region [⟨some 40,(.load true 5),[.t 5],none,[]⟩,
 ⟨none,(.store 5),[.t 4,.t 40],none,[0,0]⟩] false)
 .ret)
def b191:DCode :=
 (.seq
 (.region [⟨some 2,.box,[.t 0],none,[]⟩,
 ⟨some 4,(.alloc [(.imm (.cpx .f64 0 0)),(.imm (.cpx .f64 0 0)),(.imm (.cpx .f64 0 0)),(.imm (.cpx .f64 0 0)),(.imm (.int .i64 0))]),[],none,[]⟩] false)
 (.seq
 (.region [⟨some 8,(.faddr 0 true 2),[.t 2],none,[]⟩,
 ⟨some 9,(.faddr 0 false 1),[.t 8],none,[0]⟩,
 ⟨some 10,(.load false 1),[.t 9],none,[1]⟩,
 ⟨some 11,(.iaddr 2),[.t 10,.c (.int .i64 0)],none,[2]⟩,
 ⟨some 12,(.load true 2),[.t 11],none,[3]⟩,
 ⟨some 13,.mov,[.t 1],none,[]⟩,
 ⟨some 14,.call,[.f 253,.t 12,.t 13],none,[4,5]⟩,
 ⟨some 5,(.alloc [(.imm (.cpx .f64 0 0)),(.imm (.cpx .f64 0 0)),(.imm (.cpx .f64 0 0)),(.imm (.cpx .f64 0 0)),(.imm (.int .i64 0))]),[],none,[]⟩,
 ⟨none,(.store 5),[.t 5,.t 14],none,[7,6,6,0,1,2,3,4,5,6,7]⟩] false)
 (.seq
 (.seq
 (.region [⟨some 15,(.faddr 0 true 2),[.t 2],none,[]⟩,
 ⟨some 16,(.faddr 1 false 1),[.t 15],none,[0]⟩,
 ⟨some 17,(.load false 1),[.t 16],none,[1]⟩,
 ⟨some 18,.len,[.t 17],none,[2]⟩,
 ⟨some 19,.mov,[.c (.int .i64 0)],none,[]⟩] false)
 (.block 0
 (.loop b191l0)))
 (.keep [4,5] [4,5] b191k1))))
def d191:DFn:=⟨2,41,[.cell 4 true 5],b191⟩
theorem body191:d191.body=b191:=rfl
theorem res191:d191.res=[.cell 4 true 5]:=rfl
theorem k191:chkFn Tryz.prog Tryz.f191 d191=true:=by kernel_rfl
def b155:DCode :=
 (.seq
 (.region [⟨some 2,.box,[.t 0],none,[]⟩,
 ⟨some 4,(.alloc [(.imm (.int .i64 0)),(.imm (.int .i64 0))]),[],none,[]⟩] false)
 (.seq
 (.region [⟨some 5,(.faddr 0 false 1),[.t 2],none,[]⟩,
 ⟨some 6,(.load false 1),[.t 5],none,[0]⟩,
 ⟨some 7,.mov,[.t 1],none,[]⟩,
 ⟨some 8,(.bin .quo),[.t 6,.t 7],none,[1,2]⟩,
 ⟨some 9,(.faddr 1 false 1),[.t 2],none,[]⟩,
 ⟨some 10,(.load false 1),[.t 9],none,[4]⟩,
 ⟨some 11,.mov,[.t 1],none,[]⟩,
 ⟨some 12,(.bin .quo),[.t 10,.t 11],none,[5,6]⟩,
 ⟨some 13,(.build [(.imm (.int .i64 0)),(.imm (.int .i64 0))] [(0,1),(1,1)]),[.t 8,.t 12],none,[3,7]⟩,
 ⟨none,(.store 2),[.t 4,.t 13],none,[8,0,1,2,3,4,5,6,7,8]⟩] true)
 .ret))
def d155:DFn:=⟨2,14,[.cell 4 true 2],b155⟩
theorem body155:d155.body=b155:=rfl
theorem res155:d155.res=[.cell 4 true 2]:=rfl
theorem k155:chkFn Tryz.prog Tryz.f155 d155=true:=by kernel_rfl
def b153k0:DCode :=
 (.seq
 (.block 1
 (.seq
 (.region [⟨some 60,(.index 4 1 false),[.t 57,.t 58],none,[]⟩,
 ⟨some 12,.mov,[.t 60],none,[0,0]⟩] false)
 (.region [⟨some 61,.mov,[.t 10],none,[]⟩,
 ⟨some 62,.mov,[.t 12],none,[]⟩,
 ⟨some 63,.nilck,[.t 62],none,[1]⟩,
 ⟨some 64,(.faddr 0 false 1),[.t 63],none,[2]⟩,
 ⟨some 65,(.load false 1),[.t 64],none,[3]⟩,
 ⟨some 66,.mov,[.t 12],none,[]⟩,
 ⟨some 67,.nilck,[.t 66],none,[5]⟩,
 ⟨some 68,(.faddr 1 false 1),[.t 67],none,[6]⟩,
 ⟨some 69,(.load false 1),[.t 68],none,[7]⟩,
 ⟨some 70,(.bsl 1),[.t 61,.t 65,.t 69],none,[0,4,8]⟩,
 ⟨some 71,.call,[.f 154,.t 70],none,[9]⟩,
 ⟨some 10,.mov,[.t 71],none,[10,10,0,1,2,3,4,5,6,7,8,9,10]⟩] true)))
 (.region [⟨some 72,(.bin .add),[.t 58,.c (.int .i64 1)],none,[]⟩,
 ⟨some 58,.mov,[.t 72],none,[0]⟩] false))
def b153l0:DCode:=.keep [4,9,10,57,58] [4,9]
 (.seq
 (.region [⟨some 59,(.bin .lss),[.t 58,.c (.int .i64 4)],none,[]⟩] false)
 (.seq
 (.cond (.t 59)
 .skip
 (.exit 0))
 (.keep [4,9,10,57,58] [4,9] b153k0)))
def b153k1:DCode :=
 (.seq
 (.block 3
 (.seq
 (.region [⟨some 80,(.index 4 1 false),[.t 77,.t 78],none,[]⟩,
 ⟨some 14,.mov,[.t 80],none,[0,0]⟩] false)
 (.region [⟨some 81,.mov,[.t 14],none,[]⟩,
 ⟨some 82,.mov,[.t 14],none,[]⟩,
 ⟨some 83,.nilck,[.t 82],none,[1]⟩,
 ⟨some 84,(.load true 2),[.t 83],none,[2]⟩,
 ⟨some 85,.mov,[.t 10],none,[]⟩,
 ⟨some 86,.call,[.f 155,.t 84,.t 85],none,[3,4]⟩,
 ⟨some 87,.nilck,[.t 81],none,[0,0,1,2,3,4,5]⟩,
 ⟨none,(.store 2),[.t 87,.t 86],none,[6,5,5,0,1,2,3,4,5]⟩] false)))
 (.region [⟨some 88,(.bin .add),[.t 78,.c (.int .i64 1)],none,[]⟩,
 ⟨some 78,.mov,[.t 88],none,[0]⟩] false))
def b153l1:DCode:=.keep [4,9,10,77,78] [4,9]
 (.seq
 (.region [⟨some 79,(.bin .lss),[.t 78,.c (.int .i64 4)],none,[]⟩] false)
 (.seq
 (.cond (.t 79)
 .skip
 (.exit 2))
 (.keep [4,9,10,77,78] [4,9] b153k1)))
def b153k2:DCode :=
 (.seq
 (.region [⟨some 89,(.faddr 8 false 1),[.t 9],none,[]⟩,
 ⟨some 90,(.load false 1),[.t 89],none,[0]⟩,
 ⟨some 91,.mov,[.t 10],none,[]⟩,
 ⟨some 92,(.bin .quo),[.t 90,.t 91],none,[1,2]⟩,
 ⟨some 93,(.faddr 8 false 1),[.t 9],none,[0,1,2,3]⟩,
 ⟨none,(.store 1),[.t 93,.t 92],none,[4,3,0,1,2,3]⟩] false)
 (.seq
 (.region [⟨some 94,(.load true 9),[.t 9],none,[]⟩,
 ⟨none,(.store 9),[.t 4,.t 94],none,[0,0]⟩,
 ⟨some 5,.mov,[.c (.int .i64 0)],none,[1,0,1]⟩] false)
 .ret))
def b153k3:DCode :=
 (.seq
 (.seq
 (.region [⟨some 73,(.faddr 0 true 2),[.t 9],none,[]⟩,
 ⟨some 74,(.faddr 2 true 2),[.t 9],none,[]⟩,
 ⟨some 75,(.faddr 4 true 2),[.t 9],none,[]⟩,
 ⟨some 76,(.faddr 6 true 2),[.t 9],none,[]⟩,
 ⟨some 77,(.build [(.imm .nilp),(.imm .nilp),(.imm .nilp),(.imm .nilp)] [(0,1),(1,1),(2,1),(3,1)]),[.t 73,.t 74,.t 75,.t 76],none,[0,1,2,3]⟩,
 ⟨some 78,.mov,[.c (.int .i64 0)],none,[]⟩] false)
 (.block 2
 (.loop b153l1)))
 (.keep [4,9,10] [4,9] b153k2))
def b153k4:DCode :=
 (.seq
 (.region [⟨some 25,(.load true 4),[.t 6],none,[]⟩,
 ⟨some 26,.mov,[.t 1],none,[]⟩,
 ⟨some 27,.call,[.f 191,.t 25,.t 26],none,[0,1]⟩,
 ⟨some 8,(.alloc [(.imm (.cpx .f64 0 0)),(.imm (.cpx .f64 0 0)),(.imm (.cpx .f64 0 0)),(.imm (.cpx .f64 0 0)),(.imm (.int .i64 0))]),[],none,[]⟩,
 ⟨none,(.store 5),[.t 8,.t 27],none,[3,2,2,0,1,2,3]⟩] false)
 (.seq
 (.region [⟨some 28,(.faddr 0 true 4),[.t 8],none,[]⟩,
 ⟨some 29,(.iarr 2 2 true),[.t 28,.c (.int .i64 0)],none,[0]⟩,
 ⟨some 30,(.iarr 2 1 false),[.t 29,.c (.int .i64 0)],none,[1]⟩,
 ⟨some 31,(.load false 1),[.t 30],none,[2]⟩,
 ⟨some 32,.call,[.f 138,.t 31],none,[3]⟩,
 ⟨some 33,(.faddr 0 true 4),[.t 8],none,[]⟩,
 ⟨some 34,(.iarr 2 2 true),[.t 33,.c (.int .i64 0)],none,[5]⟩,
 ⟨some 35,(.iarr 2 1 false),[.t 34,.c (.int .i64 1)],none,[6]⟩,
 ⟨some 36,(.load false 1),[.t 35],none,[7]⟩,
 ⟨some 37,.call,[.f 138,.t 36],none,[8,4]⟩,
 ⟨some 38,(.faddr 0 true 4),[.t 8],none,[]⟩,
 ⟨some 39,(.iarr 2 2 true),[.t 38,.c (.int .i64 1)],none,[10]⟩,
 ⟨some 40,(.iarr 2 1 false),[.t 39,.c (.int .i64 0)],none,[11]⟩,
 ⟨some 41,(.load false 1),[.t 40],none,[12]⟩,
 ⟨some 42,.call,[.f 138,.t 41],none,[13,9]⟩,
 ⟨some 43,(.faddr 0 true 4),[.t 8],none,[]⟩,
 ⟨some 44,(.iarr 2 2 true),[.t 43,.c (.int .i64 1)],none,[15]⟩,
 ⟨some 45,(.iarr 2 1 false),[.t 44,.c (.int .i64 1)],none,[16]⟩,
 ⟨some 46,(.load false 1),[.t 45],none,[17]⟩,
 ⟨some 47,.call,[.f 138,.t 46],none,[18,14]⟩,
 ⟨some 48,(.faddr 4 false 1),[.t 8],none,[]⟩,
 ⟨some 49,(.load false 1),[.t 48],none,[20]⟩,
 ⟨some 50,(.build [(.imm (.int .i64 0)),(.imm (.int .i64 0)),(.imm (.int .i64 0)),(.imm (.int .i64 0)),(.imm (.int .i64 0)),(.imm (.int .i64 0)),(.imm (.int .i64 0)),(.imm (.int .i64 0)),(.imm (.int .i64 0))] [(0,2),(2,2),(4,2),(6,2),(8,1)]),[.t 32,.t 37,.t 42,.t 47,.t 49],none,[4,9,14,19,21]⟩,
 ⟨some 9,(.alloc [(.imm (.int .i64 0)),(.imm (.int .i64 0)),(.imm (.int .i64 0)),(.imm (.int .i64 0)),(.imm (.int .i64 0)),(.imm (.int .i64 0)),(.imm (.int .i64 0)),(.imm (.int .i64 0)),(.imm (.int .i64 0))]),[],none,[]⟩,
 ⟨none,(.store 9),[.t 9,.t 50],none,[23,22,19,0,1,2,3,4,5,6,7,8,9,10,11,12,13,14,15,16,17,18,19,20,21,22,23]⟩] true)
 (.seq
 (.region [⟨some 51,(.faddr 8 false 1),[.t 9],none,[]⟩,
 ⟨some 52,(.load false 1),[.t 51],none,[0]⟩,
 ⟨some 10,.mov,[.t 52],none,[1,0,1]⟩] false)
 (.seq
 (.seq
 (.region [⟨some 53,(.faddr 0 true 2),[.t 9],none,[]⟩,
 ⟨some 54,(.faddr 2 true 2),[.t 9],none,[]⟩,
 ⟨some 55,(.faddr 4 true 2),[.t 9],none,[]⟩,
 ⟨some 56,(.faddr 6 true 2),[.t 9],none,[]⟩,
 ⟨some 57,(.build [(.imm .nilp),(.imm .nilp),(.imm .nilp),(.imm .nilp)] [(0,1),(1,1),(2,1),(3,1)]),[.t 53,.t 54,.t 55,.t 56],none,[0,1,2,3]⟩,
 ⟨some 58,.mov,[.c (.int .i64 0)],none,[]⟩] false)
 (.block 0
 (.loop b153l0)))
 (.keep [4,9,10] [4,9] b153k3)))))
def b153:DCode :=
 (.seq
 (.region [⟨some 2,.box,[.t 0],none,[]⟩,
 ⟨some 4,(.alloc [(.imm (.int .i64 0)),(.imm (.int .i64 0)),(.imm (.int .i64 0)),(.imm (.int .i64 0)),(.imm (.int .i64 0)),(.imm (.int .i64 0)),(.imm (.int .i64 0)),(.imm (.int .i64 0)),(.imm (.int .i64 0))]),[],none,[]⟩,
 ⟨some 5,.mov,[.c (.int .i64 0)],none,[]⟩] false)
 (.seq
 (.region [⟨some 16,(.load true 2),[.t 2],none,[]⟩,
 ⟨some 17,.mov,[.t 1],none,[]⟩,
 ⟨some 18,.call,[.f 133,.t 16,.t 17],none,[0,1]⟩,
 ⟨some 15,.mov,[.t 18],none,[2]⟩,
 ⟨some 19,(.ext 0),[.t 15],none,[3]⟩,
 ⟨some 20,(.ext 1),[.t 15],none,[3]⟩,
 ⟨some 6,(.alloc [(.imm (.slc 2 [])),(.imm (.slc 1 [])),(.imm (.slc 1 [])),(.imm (.int .i64 0))]),[],none,[]⟩,
 ⟨none,(.store 4),[.t 6,.t 19],none,[6,4,2,0,1,2,3,4,6]⟩,
 ⟨some 7,.mov,[.t 20],none,[5,7,0,1,2,3,4,5,6,7]⟩] false)
 (.seq
 (.seq
 (.region [⟨some 21,.mov,[.t 7],none,[]⟩,
 ⟨some 22,(.bin .neq),[.t 21,.c (.int .i64 0)],none,[0]⟩] false)
 (.cond (.t 22)
 (.seq
 (.region [⟨some 23,(.build [(.imm (.int .i64 0)),(.imm (.int .i64 0)),(.imm (.int .i64 0)),(.imm (.int .i64 0)),(.imm (.int .i64 0)),(.imm (.int .i64 0)),(.imm (.int .i64 0)),(.imm (.int .i64 0)),(.imm (.int .i64 0))] []),[],none,[]⟩,
 ⟨some 24,.mov,[.t 7],none,[]⟩,
 ⟨none,(.store 9),[.t 4,.t 23],none,[0,0]⟩,
 ⟨some 5,.mov,[.t 24],none,[1,2,0,1,2]⟩] false)
 .ret)
 .skip))
 (.keep [1,4,6] [4,6] b153k4))))
def d153:DFn:=⟨2,95,[.cell 4 true 9,.tmp 5],b153⟩
theorem body153:d153.body=b153:=rfl
theorem res153:d153.res=[.cell 4 true 9,.tmp 5]:=rfl
theorem k153:chkFn Tryz.prog Tryz.f153 d153=true:=by kernel_rfl
def b65k0:DCode :=
 (.seq
 (.region [⟨some 65,(.faddr 2 true 2),[.t 6],none,[]⟩,
 ⟨some 66,(.load true 2),[.t 65],none,[0]⟩,
 ⟨some 67,.mov,[.t 8],none,[]⟩,
 ⟨some 68,.call,[.f 155,.t 66,.t 67],none,[1,2]⟩,
 ⟨some 69,(.faddr 6 true 2),[.t 6],none,[]⟩,
 ⟨some 70,(.load true 2),[.t 69],none,[4]⟩,
 ⟨some 71,.mov,[.t 8],none,[]⟩,
 ⟨some 72,.call,[.f 155,.t 70,.t 71],none,[5,6,3]⟩,
 ⟨some 73,(.build [(.imm (.int .i64 0)),(.imm (.int .i64 0)),(.imm (.int .i64 0)),(.imm (.int .i64 0))] [(0,2),(2,2)]),[.t 68,.t 72],none,[3,7]⟩,
 ⟨none,(.store 4),[.t 4,.t 73],none,[8,7,0,1,2,3,4,5,6,7,8]⟩,
 ⟨some 5,.mov,[.c (.int .i64 0)],none,[9,0,1,2,3,4,5,6,7,8,9]⟩] true)
 .ret)
def b65k1:DCode :=
 (.seq
 (.region [⟨some 33,(.faddr 2 true 2),[.t 6],none,[]⟩,
 ⟨some 34,(.faddr 0 false 1),[.t 33],none,[0]⟩,
 ⟨some 35,(.load false 1),[.t 34],none,[1]⟩,
 ⟨some 36,(.faddr 2 true 2),[.t 6],none,[]⟩,
 ⟨some 37,(.faddr 1 false 1),[.t 36],none,[3]⟩,
 ⟨some 38,(.load false 1),[.t 37],none,[4]⟩,
 ⟨some 39,(.faddr 6 true 2),[.t 6],none,[]⟩,
 ⟨some 40,(.faddr 0 false 1),[.t 39],none,[6]⟩,
 ⟨some 41,(.load false 1),[.t 40],none,[7]⟩,
 ⟨some 42,(.faddr 6 true 2),[.t 6],none,[]⟩,
 ⟨some 43,(.faddr 1 false 1),[.t 42],none,[9]⟩,
 ⟨some 44,(.load false 1),[.t 43],none,[10]⟩,
 ⟨some 45,(.bsl 1),[.t 35,.t 38,.t 41,.t 44],none,[2,5,8,11]⟩,
 ⟨some 46,.call,[.f 154,.t 45],none,[12]⟩,
 ⟨some 8,.mov,[.t 46],none,[13,13,0,1,2,3,4,5,6,7,8,9,10,11,12,13]⟩] false)
 (.seq
 (.seq
 (.region [⟨some 47,(.faddr 6 true 2),[.t 6],none,[]⟩,
 ⟨some 48,(.faddr 0 false 1),[.t 47],none,[0]⟩,
 ⟨some 49,(.load false 1),[.t 48],none,[1]⟩,
 ⟨some 50,(.bin .lss),[.t 49,.c (.int .i64 0)],none,[2]⟩,
 ⟨some 51,.mov,[.t 50],none,[3]⟩,
 ⟨some 52,(.faddr 6 true 2),[.t 6],(some (51,false)),[4]⟩,
 ⟨some 53,(.faddr 0 false 1),[.t 52],(some (51,false)),[5,4]⟩,
 ⟨some 54,(.load false 1),[.t 53],(some (51,false)),[6,4]⟩,
 ⟨some 55,(.bin .eql),[.t 54,.c (.int .i64 0)],(some (51,false)),[7,4]⟩,
 ⟨some 56,.mov,[.t 55],(some (51,false)),[8,4,4]⟩,
 ⟨some 57,(.faddr 6 true 2),[.t 6],(some (56,true)),[9]⟩,
 ⟨some 58,(.faddr 1 false 1),[.t 57],(some (56,true)),[10,9]⟩,
 ⟨some 59,(.load false 1),[.t 58],(some (56,true)),[11,9]⟩,
 ⟨some 60,(.bin .lss),[.t 59,.c (.int .i64 0)],(some (56,true)),[12,9]⟩,
 ⟨some 61,.pick,[.t 56,.t 60,.c (.bool false)],(some (51,false)),[9,13,4]⟩,
 ⟨some 62,.pick,[.t 51,.c (.bool true),.t 61],none,[4,14]⟩] false)
 (.cond (.t 62)
 (.region [⟨some 63,.mov,[.t 8],none,[]⟩,
 ⟨some 64,(.un .neg),[.t 63],none,[0]⟩,
 ⟨some 8,.mov,[.t 64],none,[1,0,1]⟩] false)
 .skip))
 (.keep [4,6,8] [4,6] b65k0)))
def b65k2:DCode :=
 (.seq
 (.seq
 (.region [⟨some 27,(.faddr 2 true 2),[.t 6],none,[]⟩,
 ⟨some 28,(.load true 2),[.t 27],none,[0]⟩,
 ⟨some 29,(.build [(.imm (.int .i64 0)),(.imm (.int .i64 0))] []),[],none,[]⟩,
 ⟨some 30,(.eqs [false,false] false),[.t 28,.t 29],none,[1,2]⟩] false)
 (.cond (.t 30)
 (.seq
 (.region [⟨some 31,(.build [(.imm (.int .i64 0)),(.imm (.int .i64 0))] [(0,1)]),[.c (.int .i64 1)],none,[]⟩,
 ⟨some 32,(.build [(.imm (.int .i64 0)),(.imm (.int .i64 0)),(.imm (.int .i64 0)),(.imm (.int .i64 0))] [(2,2)]),[.t 31],none,[0]⟩,
 ⟨none,(.store 4),[.t 4,.t 32],none,[1,0,1]⟩,
 ⟨some 5,.mov,[.c (.int .i64 0)],none,[2,0,1,2]⟩] false)
 .ret)
 .skip))
 (.keep [4,6] [4,6] b65k1))
def b65:DCode :=
 (.seq
 (.region [⟨some 2,.box,[.t 0],none,[]⟩,
 ⟨some 4,(.alloc [(.imm (.int .i64 0)),(.imm (.int .i64 0)),(.imm (.int .i64 0)),(.imm (.int .i64 0))]),[],none,[]⟩,
 ⟨some 5,.mov,[.c (.int .i64 0)],none,[]⟩] false)
 (.seq
 (.region [⟨some 10,(.load true 2),[.t 2],none,[]⟩,
 ⟨some 11,.mov,[.t 1],none,[]⟩,
 ⟨some 12,.call,[.f 153,.t 10,.t 11],none,[0,1]⟩,
 ⟨some 9,.mov,[.t 12],none,[2]⟩,
 ⟨some 13,(.ext 0),[.t 9],none,[3]⟩,
 ⟨some 14,(.ext 1),[.t 9],none,[3]⟩,
 ⟨some 6,(.alloc [(.imm (.int .i64 0)),(.imm (.int .i64 0)),(.imm (.int .i64 0)),(.imm (.int .i64 0)),(.imm (.int .i64 0)),(.imm (.int .i64 0)),(.imm (.int .i64 0)),(.imm (.int .i64 0)),(.imm (.int .i64 0))]),[],none,[]⟩,
 ⟨none,(.store 9),[.t 6,.t 13],none,[6,4,2,0,1,2,3,4,6]⟩,
 ⟨some 7,.mov,[.t 14],none,[5,7,0,1,2,3,4,5,6,7]⟩] false)
 (.seq
 (.seq
 (.region [⟨some 15,.mov,[.t 7],none,[]⟩,
 ⟨some 16,(.faddr 6 true 2),[.t 6],none,[]⟩,
 ⟨some 17,(.load true 2),[.t 16],none,[1]⟩,
 ⟨some 18,(.build [(.imm (.int .i64 0)),(.imm (.int .i64 0))] []),[],none,[]⟩,
 ⟨some 19,(.eqs [false,false] true),[.t 17,.t 18],none,[2,3]⟩,
 ⟨some 20,.call,[.f 135,.t 19,.c (.int .i64 21)],none,[4]⟩,
 ⟨some 21,(.bsl 1),[.t 15,.t 20],none,[0,5]⟩,
 ⟨some 22,.call,[.f 134,.t 21],none,[6,5]⟩,
 ⟨some 7,.mov,[.t 22],none,[7,7,0,1,2,3,4,5,6,7]⟩] false)
 (.seq
 (.region [⟨some 23,.mov,[.t 7],none,[]⟩,
 ⟨some 24,(.bin .neq),[.t 23,.c (.int .i64 0)],none,[0]⟩] false)
 (.cond (.t 24)
 (.seq
 (.region [⟨some 25,(.build [(.imm (.int .i64 0)),(.imm (.int .i64 0)),(.imm (.int .i64 0)),(.imm (.int .i64 0))] []),[],none,[]⟩,
 ⟨some 26,.mov,[.t 7],none,[]⟩,
 ⟨none,(.store 4),[.t 4,.t 25],none,[0,0]⟩,
 ⟨some 5,.mov,[.t 26],none,[1,2,0,1,2]⟩] false)
 .ret)
 .skip)))
 (.keep [4,6] [4,6] b65k2))))
def d65:DFn:=⟨2,74,[.cell 4 true 4,.tmp 5],b65⟩
theorem body65:d65.body=b65:=rfl
theorem res65:d65.res=[.cell 4 true 4,.tmp 5]:=rfl
theorem k65:chkFn Tryz.prog Tryz.f65 d65=true:=by kernel_rfl
def b58k0:DCode :=
 (.seq
 (.block 1
 (.seq
 (.region [⟨some 56,(.iaddr 2),[.t 52,.t 54],none,[]⟩,
 ⟨some 57,(.load true 2),[.t 56],none,[0]⟩,
 ⟨some 14,(.alloc [(.imm (.int .i64 0)),(.imm (.int .i64 0))]),[],none,[]⟩,
 ⟨none,(.store 2),[.t 14,.t 57],none,[2,1,0,1,2]⟩] false)
 (.region [⟨some 58,.mov,[.t 11],none,[]⟩,
 ⟨some 59,(.faddr 1 false 1),[.t 14],none,[]⟩,
 ⟨some 60,(.load false 1),[.t 59],none,[1]⟩,
 ⟨some 61,(.px (.i2f .f64)),[.t 60],none,[2]⟩,
 ⟨some 62,(.px .cplx),[.t 61,.c (.flt .f64 0)],none,[3]⟩,
 ⟨some 63,(.px (.cpx .mul)),[.t 58,.t 62],none,[0,4]⟩,
 ⟨some 11,.mov,[.t 63],none,[5,0,1,2,3,4,5]⟩] false)))
 (.region [⟨some 64,(.bin .add),[.t 54,.c (.int .i64 1)],none,[]⟩,
 ⟨some 54,.mov,[.t 64],none,[0]⟩] false))
def b58l0:DCode:=.keep [1,6,8,10,11,12,52,53,54] [6,8,10,81,129,142,1001,1002,1003]
 (.seq
 (.region [⟨some 55,(.bin .lss),[.t 54,.t 53],none,[]⟩] false)
 (.seq
 (.cond (.t 55)
 .skip
 (.exit 0))
 (.keep [1,6,8,10,11,12,52,53,54] [6,8,10,81,129,142,1001,1002,1003] b58k0)))
def b58k1:DCode :=
 (.seq
 (.block 5
 (.seq
 (.region [⟨some 117,.mov,[.t 115],none,[]⟩,
 ⟨some 20,.mov,[.t 117],none,[0,0]⟩] false)
 (.seq
 (.region [⟨some 118,(.faddr 1 false 1),[.t 10],none,[]⟩,
 ⟨some 119,(.load false 1),[.t 118],none,[0]⟩,
 ⟨some 120,.mov,[.t 18],none,[]⟩,
 ⟨some 121,.mov,[.t 1],none,[]⟩,
 ⟨some 122,(.un .neg),[.t 121],none,[3]⟩,
 ⟨some 123,.mov,[.t 20],none,[]⟩,
 ⟨some 124,(.bin .mul),[.t 122,.t 123],none,[4,5]⟩,
 ⟨some 125,.call,[.f 139,.t 124],none,[6]⟩,
 ⟨some 126,(.px (.cpx .mul)),[.t 120,.t 125],none,[2,7]⟩,
 ⟨some 127,.call,[.f 138,.t 126],none,[8,7]⟩,
 ⟨some 128,(.bsl 2),[.t 127],none,[9]⟩,
 ⟨some 129,(.append 2 16 false),[.t 119,.t 128],none,[1,10,9]⟩,
 ⟨some 130,(.faddr 1 false 1),[.t 10],none,[0,1,2,3,4,5,6,7,8,9,10,11]⟩,
 ⟨none,(.store 1),[.t 130,.t 129],none,[12,11,11,0,1,2,3,4,5,6,7,8,9,10,11]⟩] true)
 (.region [⟨some 131,(.faddr 2 false 1),[.t 10],none,[]⟩,
 ⟨some 132,(.load false 1),[.t 131],none,[0]⟩,
 ⟨some 133,.mov,[.t 19],none,[]⟩,
 ⟨some 134,.mov,[.t 1],none,[]⟩,
 ⟨some 135,.mov,[.t 20],none,[]⟩,
 ⟨some 136,(.bin .add),[.t 135,.c (.int .i64 1)],none,[4]⟩,
 ⟨some 137,(.bin .mul),[.t 134,.t 136],none,[3,5]⟩,
 ⟨some 138,.call,[.f 139,.t 137],none,[6]⟩,
 ⟨some 139,(.px (.cpx .mul)),[.t 133,.t 138],none,[2,7]⟩,
 ⟨some 140,.call,[.f 138,.t 139],none,[8,7]⟩,
 ⟨some 141,(.bsl 2),[.t 140],none,[9]⟩,
 ⟨some 142,(.append 2 16 false),[.t 132,.t 141],none,[1,10,9]⟩,
 ⟨some 143,(.faddr 2 false 1),[.t 10],none,[0,1,2,3,4,5,6,7,8,9,10,11]⟩,
 ⟨none,(.store 1),[.t 143,.t 142],none,[12,11,11,0,1,2,3,4,5,6,7,8,9,10,11]⟩] true))))
 (.region [⟨some 144,(.bin .add),[.t 115,.c (.int .i64 1)],none,[]⟩,
 ⟨some 115,.mov,[.t 144],none,[0]⟩] false))
def b58l1:DCode:=.keep [1,6,8,10,11,12,16,17,18,19,67,68,69,114,115] [6,8,10,16,81,129,142,1001,1002,1003]
 (.seq
 (.region [⟨some 116,(.bin .lss),[.t 115,.t 114],none,[]⟩] false)
 (.seq
 (.cond (.t 116)
 .skip
 (.exit 4))
 (.keep [1,6,8,10,11,12,16,17,18,19,67,68,69,114,115] [6,8,10,16,81,129,142,1001,1002,1003] b58k1)))
def b58k2:DCode :=
 (.seq
 (.region [⟨some 145,.mov,[.t 1],none,[]⟩,
 ⟨some 146,(.faddr 0 false 1),[.t 16],none,[]⟩,
 ⟨some 147,(.load false 1),[.t 146],none,[1]⟩,
 ⟨some 148,(.bin .mul),[.t 145,.t 147],none,[0,2]⟩,
 ⟨some 149,.call,[.f 141,.t 148],none,[3]⟩,
 ⟨some 150,.mov,[.t 1],none,[]⟩,
 ⟨some 151,(.faddr 0 false 1),[.t 16],none,[]⟩,
 ⟨some 152,(.load false 1),[.t 151],none,[6]⟩,
 ⟨some 153,(.bin .mul),[.t 150,.t 152],none,[5,7]⟩,
 ⟨some 154,.call,[.f 142,.t 153],none,[8,4]⟩,
 ⟨some 21,.mov,[.t 149],none,[4,9,0,1,2,3,4]⟩,
 ⟨some 22,.mov,[.t 154],none,[9,10,0,1,2,3,4,5,6,7,8,9,10]⟩] true)
 (.region [⟨some 155,.mov,[.t 21],none,[]⟩,
 ⟨some 156,.mov,[.t 12],none,[]⟩,
 ⟨some 157,(.px (.cpx .mul)),[.t 155,.t 156],none,[0,1]⟩,
 ⟨some 158,.mov,[.t 22],none,[]⟩,
 ⟨some 159,(.px (.cpx .mul)),[.c (.cpx .f64 0 4607182418800017408),.t 158],none,[3]⟩,
 ⟨some 160,.mov,[.t 17],none,[]⟩,
 ⟨some 161,(.px (.cpx .mul)),[.t 159,.t 160],none,[4,5]⟩,
 ⟨some 162,(.px (.cpx .sub)),[.t 157,.t 161],none,[2,6]⟩,
 ⟨some 163,.mov,[.t 21],none,[]⟩,
 ⟨some 164,.mov,[.t 11],none,[]⟩,
 ⟨some 165,(.px (.cpx .mul)),[.t 163,.t 164],none,[8,9]⟩,
 ⟨some 166,.mov,[.t 22],none,[]⟩,
 ⟨some 167,(.px (.cpx .mul)),[.c (.cpx .f64 0 4607182418800017408),.t 166],none,[11]⟩,
 ⟨some 168,(.faddr 1 false 1),[.t 16],none,[]⟩,
 ⟨some 169,(.load false 1),[.t 168],none,[13]⟩,
 ⟨some 170,(.px (.i2f .f64)),[.t 169],none,[14]⟩,
 ⟨some 171,(.px .cplx),[.t 170,.c (.flt .f64 0)],none,[15]⟩,
 ⟨some 172,(.px (.cpx .mul)),[.t 167,.t 171],none,[12,16]⟩,
 ⟨some 173,.mov,[.t 12],none,[]⟩,
 ⟨some 174,(.px (.cpx .mul)),[.t 172,.t 173],none,[17,18]⟩,
 ⟨some 175,(.px (.cpx .sub)),[.t 165,.t 174],none,[10,19]⟩,
 ⟨some 12,.mov,[.t 162],none,[7,0,1,2,3,4,5,6,7,18]⟩,
 ⟨some 11,.mov,[.t 175],none,[20,21,0,1,2,3,4,5,6,7,8,9,10,11,12,13,14,15,16,17,18,19,20,21]⟩] true))
def b58k3:DCode :=
 (.seq
 (.region [⟨some 101,.mov,[.t 11],none,[]⟩,
 ⟨some 102,(.faddr 1 false 1),[.t 16],none,[]⟩,
 ⟨some 103,(.load false 1),[.t 102],none,[1]⟩,
 ⟨some 104,.call,[.f 140,.t 101,.t 103],none,[0,2]⟩,
 ⟨some 17,.mov,[.t 104],none,[3,3,0,1,2,3]⟩] false)
 (.seq
 (.region [⟨some 105,.mov,[.t 12],none,[]⟩,
 ⟨some 106,.mov,[.t 17],none,[]⟩,
 ⟨some 107,(.px (.cpx .add)),[.t 105,.t 106],none,[0,1]⟩,
 ⟨some 108,.call,[.f 140,.t 107,.c (.int .i64 2)],none,[2]⟩,
 ⟨some 109,.mov,[.t 12],none,[]⟩,
 ⟨some 110,.mov,[.t 17],none,[]⟩,
 ⟨some 111,(.px (.cpx .sub)),[.t 109,.t 110],none,[4,5]⟩,
 ⟨some 112,.call,[.f 140,.t 111,.c (.int .i64 2)],none,[6,3]⟩,
 ⟨some 18,.mov,[.t 108],none,[3,7,0,1,2,3]⟩,
 ⟨some 19,.mov,[.t 112],none,[7,8,0,1,2,3,4,5,6,7,8]⟩] false)
 (.seq
 (.seq
 (.region [⟨some 113,(.faddr 0 false 1),[.t 16],none,[]⟩,
 ⟨some 114,(.load false 1),[.t 113],none,[0]⟩,
 ⟨some 115,.mov,[.c (.int .i64 0)],none,[]⟩] false)
 (.block 4
 (.loop b58l1)))
 (.keep [1,6,8,10,11,12,16,17,67,68,69] [6,8,10,16,81,129,142,1001,1002,1003] b58k2))))
def b58k4:DCode :=
 (.region [⟨some 176,(.bin .add),[.t 69,.c (.int .i64 1)],none,[]⟩,
 ⟨some 69,.mov,[.t 176],none,[0]⟩] false)
def b58k5:DCode :=
 (.seq
 (.block 3
 (.seq
 (.region [⟨some 71,.mov,[.t 69],none,[]⟩,
 ⟨some 72,(.iaddr 2),[.t 67,.t 69],none,[]⟩,
 ⟨some 73,(.load true 2),[.t 72],none,[1]⟩,
 ⟨some 16,(.alloc [(.imm (.int .i64 0)),(.imm (.int .i64 0))]),[],none,[]⟩,
 ⟨some 15,.mov,[.t 71],none,[0,0,1,2,3]⟩,
 ⟨none,(.store 2),[.t 16,.t 73],none,[3,2,4,0,1,2,3,4]⟩] false)
 (.seq
 (.seq
 (.region [⟨some 74,.mov,[.t 15],none,[]⟩,
 ⟨some 75,(.bin .gtr),[.t 74,.c (.int .i64 0)],none,[0]⟩] false)
 (.cond (.t 75)
 (.seq
 (.region [⟨some 76,(.faddr 3 false 1),[.t 10],none,[]⟩,
 ⟨some 77,(.load false 1),[.t 76],none,[0]⟩,
 ⟨some 78,.mov,[.t 12],none,[]⟩,
 ⟨some 79,.call,[.f 138,.t 78],none,[2]⟩,
 ⟨some 80,(.bsl 2),[.t 79],none,[3]⟩,
 ⟨some 81,(.append 2 16 false),[.t 77,.t 80],none,[1,4,3]⟩,
 ⟨some 82,(.faddr 3 false 1),[.t 10],none,[0,1,2,3,4,5]⟩,
 ⟨none,(.store 1),[.t 82,.t 81],none,[6,5,5,0,1,2,3,4,5]⟩] true)
 (.region [⟨some 83,.mov,[.t 11],none,[]⟩,
 ⟨some 84,(.faddr 0 true 2),[.t 8],none,[]⟩,
 ⟨some 85,(.faddr 1 false 1),[.t 84],none,[1]⟩,
 ⟨some 86,(.load false 1),[.t 85],none,[2]⟩,
 ⟨some 87,.mov,[.t 15],none,[]⟩,
 ⟨some 88,(.bin .sub),[.t 87,.c (.int .i64 1)],none,[4]⟩,
 ⟨some 89,(.iaddr 1),[.t 86,.t 88],none,[3,5]⟩,
 ⟨some 90,(.load false 1),[.t 89],none,[6]⟩,
 ⟨some 91,(.px (.i2f .f64)),[.t 90],none,[7]⟩,
 ⟨some 92,(.px .cplx),[.t 91,.c (.flt .f64 0)],none,[8]⟩,
 ⟨some 93,.mov,[.t 1],none,[]⟩,
 ⟨some 94,(.un .neg),[.t 93],none,[10]⟩,
 ⟨some 95,.call,[.f 139,.t 94],none,[11]⟩,
 ⟨some 96,(.px (.cpx .sub)),[.c (.cpx .f64 4607182418800017408 0),.t 95],none,[12]⟩,
 ⟨some 97,(.px (.cpx .mul)),[.t 92,.t 96],none,[9,13]⟩,
 ⟨some 98,.mov,[.t 12],none,[]⟩,
 ⟨some 99,(.px (.cpx .mul)),[.t 97,.t 98],none,[14,15]⟩,
 ⟨some 100,(.px (.cpx .sub)),[.t 83,.t 99],none,[0,16]⟩,
 ⟨some 11,.mov,[.t 100],none,[17,12,0,1,2,3,4,5,6,7,8,9,10,11,12,13,14,15,16,17]⟩] true))
 .skip))
 (.keep [1,6,8,10,11,12,16,67,68,69] [6,8,10,16,81,129,142,1001,1002,1003] b58k3))))
 (.keep [1,6,8,10,11,12,67,68,69] [6,8,10,81,129,142,1001,1002,1003] b58k4))
def b58l2:DCode:=.keep [1,6,8,10,11,12,67,68,69] [6,8,10,81,129,142,1001,1002,1003]
 (.seq
 (.region [⟨some 70,(.bin .lss),[.t 69,.t 68],none,[]⟩] false)
 (.seq
 (.cond (.t 70)
 .skip
 (.exit 2))
 (.keep [1,6,8,10,11,12,67,68,69] [6,8,10,81,129,142,1001,1002,1003] b58k5)))
def b58k6:DCode :=
 (.seq
 (.region [⟨some 177,(.load true 4),[.t 8],none,[]⟩,
 ⟨some 178,.call,[.f 143,.t 177],none,[0]⟩,
 ⟨some 23,.mov,[.t 178],none,[1,1,0,1]⟩] false)
 (.seq
 (.region [⟨some 179,(.faddr 2 false 1),[.t 10],none,[]⟩,
 ⟨some 180,(.load false 1),[.t 179],none,[0]⟩,
 ⟨some 181,.mov,[.t 23],none,[]⟩,
 ⟨some 182,(.iaddr 2),[.t 180,.t 181],none,[1,2]⟩,
 ⟨some 183,(.load true 2),[.t 182],none,[3]⟩,
 ⟨some 184,.call,[.f 137,.t 183],none,[4]⟩,
 ⟨some 185,(.faddr 1 false 1),[.t 10],none,[]⟩,
 ⟨some 186,(.load false 1),[.t 185],none,[6]⟩,
 ⟨some 187,.mov,[.t 23],none,[]⟩,
 ⟨some 188,(.iaddr 2),[.t 186,.t 187],none,[7,8]⟩,
 ⟨some 189,(.load true 2),[.t 188],none,[9]⟩,
 ⟨some 190,.call,[.f 137,.t 189],none,[10,5]⟩,
 ⟨some 191,.mov,[.t 1],none,[]⟩,
 ⟨some 192,(.un .neg),[.t 191],none,[12]⟩,
 ⟨some 193,.call,[.f 139,.t 192],none,[13,11]⟩,
 ⟨some 194,(.px (.cpx .mul)),[.t 190,.t 193],none,[11,14]⟩,
 ⟨some 195,(.px (.cpx .sub)),[.t 184,.t 194],none,[5,15]⟩,
 ⟨some 196,.call,[.f 138,.t 195],none,[16,14]⟩,
 ⟨some 197,(.faddr 4 true 2),[.t 10],none,[0,1,2,3,4,5,6,7,8,9,10,11,12,13,14,15,16,17]⟩,
 ⟨none,(.store 2),[.t 197,.t 196],none,[18,17,17,0,1,2,3,4,5,6,7,8,9,10,11,12,13,14,15,16,17]⟩] true)
 (.seq
 (.region [⟨some 198,(.load true 6),[.t 10],none,[]⟩,
 ⟨none,(.store 6),[.t 6,.t 198],none,[0,0]⟩,
 ⟨some 7,.mov,[.c (.int .i64 0)],none,[1,0,1]⟩] false)
 .ret)))
def b58k7:DCode :=
 (.seq
 (.seq
 (.region [⟨some 65,(.faddr 0 true 2),[.t 8],none,[]⟩,
 ⟨some 66,(.faddr 0 false 1),[.t 65],none,[0]⟩,
 ⟨some 67,(.load false 1),[.t 66],none,[1]⟩,
 ⟨some 68,.len,[.t 67],none,[2]⟩,
 ⟨some 69,.mov,[.c (.int .i64 0)],none,[]⟩] false)
 (.block 2
 (.loop b58l2)))
 (.keep [1,6,8,10] [6,8,10,81,129,142,1001,1002,1003] b58k6))
def b58k8:DCode :=
 (.seq
 (.region [⟨some 46,.mov,[.t 1],none,[]⟩,
 ⟨some 47,(.buildr [(.imm (.int .i64 0)),(.cap0 2 []),(.cap0 2 []),(.cap0 2 []),(.imm (.int .i64 0)),(.imm (.int .i64 0))] [(0,1)]),[.t 46],none,[0]⟩,
 ⟨some 10,(.alloc [(.imm (.int .i64 0)),(.cap0 2 []),(.cap0 2 []),(.cap0 2 []),(.imm (.int .i64 0)),(.imm (.int .i64 0))]),[],none,[]⟩,
 ⟨none,(.store 6),[.t 10,.t 47],none,[2,1,0,1,2]⟩] false)
 (.mktok 10 1 1001 2
 (.mktok 10 2 1002 2
 (.mktok 10 3 1003 2
 (.seq
 (.region [⟨some 48,(.load true 2),[.t 5],none,[]⟩,
 ⟨some 49,.call,[.f 137,.t 48],none,[0]⟩,
 ⟨some 50,(.px (.cpx .mul)),[.c (.cpx .f64 4611686018427387904 0),.t 49],none,[1]⟩,
 ⟨some 11,.mov,[.t 50],none,[2,1,0,1,2]⟩,
 ⟨some 12,.mov,[.c (.cpx .f64 0 0)],none,[3,0,1,2,3]⟩] false)
 (.seq
 (.seq
 (.region [⟨some 51,(.faddr 0 false 1),[.t 3],none,[]⟩,
 ⟨some 52,(.load false 1),[.t 51],none,[0]⟩,
 ⟨some 53,.len,[.t 52],none,[1]⟩,
 ⟨some 54,.mov,[.c (.int .i64 0)],none,[]⟩] false)
 (.block 0
 (.loop b58l0)))
 (.keep [1,6,8,10,11,12] [6,8,10,81,129,142,1001,1002,1003] b58k7)))))))
def b58:DCode :=
 (.seq
 (.region [⟨some 3,.box,[.t 0],none,[]⟩,
 ⟨some 5,.box,[.t 2],none,[]⟩,
 ⟨some 6,(.alloc [(.imm (.int .i64 0)),(.imm (.slc 2 [])),(.imm (.slc 2 [])),(.imm (.slc 2 [])),(.imm (.int .i64 0)),(.imm (.int .i64 0))]),[],none,[]⟩,
 ⟨some 7,.mov,[.c (.int .i64 0)],none,[]⟩] false)
 (.seq
 (.region [⟨some 25,(.load true 2),[.t 3],none,[]⟩,
 ⟨some 26,.mov,[.t 1],none,[]⟩,
 ⟨some 27,.call,[.f 133,.t 25,.t 26],none,[0,1]⟩,
 ⟨some 24,.mov,[.t 27],none,[2]⟩,
 ⟨some 28,(.ext 0),[.t 24],none,[3]⟩,
 ⟨some 29,(.ext 1),[.t 24],none,[3]⟩,
 ⟨some 8,(.alloc [(.imm (.slc 2 [])),(.imm (.slc 1 [])),(.imm (.slc 1 [])),(.imm (.int .i64 0))]),[],none,[]⟩,
 ⟨none,(.store 4),[.t 8,.t 28],none,[6,4,2,0,1,2,3,4,6]⟩,
 ⟨some 9,.mov,[.t 29],none,[5,7,0,1,2,3,4,5,6,7]⟩] false)
 (.seq
 (.seq
 (.region [⟨some 30,.mov,[.t 9],none,[]⟩,
 ⟨some 31,(.faddr 0 false 1),[.t 5],none,[]⟩,
 ⟨some 32,(.load false 1),[.t 31],none,[1]⟩,
 ⟨some 33,.call,[.f 136,.t 32,.c (.int .i64 10)],none,[2]⟩,
 ⟨some 34,.mov,[.t 33],none,[3,3]⟩,
 ⟨some 35,(.faddr 1 false 1),[.t 5],(some (34,true)),[4]⟩,
 ⟨some 36,(.load false 1),[.t 35],(some (34,true)),[5,4]⟩,
 ⟨some 37,.call,[.f 136,.t 36,.c (.int .i64 10)],(some (34,true)),[6,4,4]⟩,
 ⟨some 38,.pick,[.t 34,.t 37,.c (.bool false)],none,[4,7]⟩,
 ⟨some 39,.call,[.f 135,.t 38,.c (.int .i64 2)],none,[8,7]⟩,
 ⟨some 40,(.bsl 1),[.t 30,.t 39],none,[0,9]⟩,
 ⟨some 41,.call,[.f 134,.t 40],none,[10,9]⟩,
 ⟨some 9,.mov,[.t 41],none,[11,11,0,1,2,3,4,5,6,7,8,9,10,11]⟩] false)
 (.seq
 (.region [⟨some 42,.mov,[.t 9],none,[]⟩,
 ⟨some 43,(.bin .neq),[.t 42,.c (.int .i64 0)],none,[0]⟩] false)
 (.cond (.t 43)
 (.seq
 (.region [⟨some 44,(.build [(.imm (.int .i64 0)),(.imm (.slc 2 [])),(.imm (.slc 2 [])),(.imm (.slc 2 [])),(.imm (.int .i64 0)),(.imm (.int .i64 0))] []),[],none,[]⟩,
 ⟨some 45,.mov,[.t 9],none,[]⟩,
 ⟨none,(.store 6),[.t 6,.t 44],none,[0,0]⟩,
 ⟨some 7,.mov,[.t 45],none,[1,2,0,1,2]⟩] false)
 .ret)
 .skip)))
 (.keep [1,3,5,6,8] [3,5,6,8,81,129,142,1001,1002,1003] b58k8))))
def d58:DFn:=⟨3,199,[.cell 6 true 6,.tmp 7],b58⟩
theorem body58:d58.body=b58:=rfl
theorem res58:d58.res=[.cell 6 true 6,.tmp 7]:=rfl
theorem k58:chkFn Tryz.prog Tryz.f58 d58=true:=by kernel_rfl
def b140:DCode :=
 (.seq
 (.region [⟨some 4,.mov,[.c (.cpx .f64 0 0)],none,[]⟩] false)
 (.seq
 (.region [⟨some 5,.mov,[.t 0],none,[]⟩,
 ⟨some 6,.call,[.f 138,.t 5],none,[0]⟩,
 ⟨some 7,.mov,[.t 1],none,[]⟩,
 ⟨some 8,.call,[.f 155,.t 6,.t 7],none,[1,2,1]⟩,
 ⟨some 9,.call,[.f 137,.t 8],none,[3,3]⟩,
 ⟨some 4,.mov,[.t 9],none,[4,4,0,1,2,3,4]⟩] false)
 .ret))
def d140:DFn:=⟨2,10,[.tmp 4],b140⟩
theorem body140:d140.body=b140:=rfl
theorem res140:d140.res=[.tmp 4]:=rfl
theorem k140:chkFn Tryz.prog Tryz.f140 d140=true:=by kernel_rfl
def b147:DCode :=
 (.seq
 (.region [⟨some 1,.box,[.t 0],none,[]⟩,
 ⟨some 2,.mov,[.c (.bool false)],none,[]⟩] false)
 (.seq
 (.region [⟨some 3,(.faddr 0 false 1),[.t 1],none,[]⟩,
 ⟨some 4,(.load false 1),[.t 3],none,[0]⟩,
 ⟨some 5,.call,[.f 136,.t 4,.c (.int .i64 1000000)],none,[1]⟩,
 ⟨some 6,.mov,[.t 5],none,[2,2]⟩,
 ⟨some 7,(.faddr 1 false 1),[.t 1],(some (6,true)),[3]⟩,
 ⟨some 8,(.load false 1),[.t 7],(some (6,true)),[4,3]⟩,
 ⟨some 9,.call,[.f 136,.t 8,.c (.int .i64 1000000)],(some (6,true)),[5,3,3]⟩,
 ⟨some 10,.pick,[.t 6,.t 9,.c (.bool false)],none,[3,6]⟩,
 ⟨some 2,.mov,[.t 10],none,[7,6,0,1,2,3,4,5,6,7]⟩] false)
 .ret))
def d147:DFn:=⟨1,11,[.tmp 2],b147⟩
theorem body147:d147.body=b147:=rfl
theorem res147:d147.res=[.tmp 2]:=rfl
theorem k147:chkFn Tryz.prog Tryz.f147 d147=true:=by kernel_rfl
def b60k0:DCode :=
 (.seq
 (.block 3
 (.seq
 (.region [⟨some 70,(.iaddr 2),[.t 66,.t 68],none,[]⟩,
 ⟨some 71,(.load true 2),[.t 70],none,[0]⟩,
 ⟨some 14,(.alloc [(.imm (.int .i64 0)),(.imm (.int .i64 0))]),[],none,[]⟩,
 ⟨none,(.store 2),[.t 14,.t 71],none,[2,1,0,1,2]⟩] false)
 (.region [⟨some 72,.mov,[.t 10],none,[]⟩,
 ⟨some 73,(.load true 2),[.t 14],none,[]⟩,
 ⟨some 74,.call,[.f 147,.t 73],none,[1]⟩,
 ⟨some 75,.call,[.f 135,.t 74,.c (.int .i64 2)],none,[2,2]⟩,
 ⟨some 76,(.bsl 1),[.t 72,.t 75],none,[0,3]⟩,
 ⟨some 77,.call,[.f 134,.t 76],none,[4,3]⟩,
 ⟨some 10,.mov,[.t 77],none,[5,5,0,1,2,3,4,5]⟩] false)))
 (.region [⟨some 78,(.bin .add),[.t 68,.c (.int .i64 1)],none,[]⟩,
 ⟨some 68,.mov,[.t 78],none,[0]⟩] false))
def b60l0:DCode:=.keep [2,4,6,10,62,63,66,67,68] [4,6]
 (.seq
 (.region [⟨some 69,(.bin .lss),[.t 68,.t 67],none,[]⟩] false)
 (.seq
 (.cond (.t 69)
 .skip
 (.exit 2))
 (.keep [2,4,6,10,62,63,66,67,68] [4,6] b60k0)))
def b60k1:DCode :=
 (.region [⟨some 79,(.bin .add),[.t 63,.c (.int .i64 1)],none,[]⟩,
 ⟨some 63,.mov,[.t 79],none,[0]⟩] false)
def b60k2:DCode :=
 (.seq
 (.block 1
 (.seq
 (.region [⟨some 65,(.index 4 1 false),[.t 62,.t 63],none,[]⟩,
 ⟨some 12,.movv,[.t 65],none,[0,0]⟩] false)
 (.seq
 (.region [⟨some 66,.movv,[.t 12],none,[]⟩,
 ⟨some 67,.len,[.t 66],none,[0]⟩,
 ⟨some 68,.mov,[.c (.int .i64 0)],none,[]⟩] false)
 (.block 2
 (.loop b60l0)))))
 (.keep [2,4,6,10,62,63] [4,6] b60k1))
def b60l1:DCode:=.keep [2,4,6,10,62,63] [4,6]
 (.seq
 (.region [⟨some 64,(.bin .lss),[.t 63,.c (.int .i64 4)],none,[]⟩] false)
 (.seq
 (.cond (.t 64)
 .skip
 (.exit 0))
 (.keep [2,4,6,10,62,63] [4,6] b60k2)))
def b60k3:DCode :=
 (.seq
 (.region [⟨some 90,(.faddr 0 false 1),[.t 4],none,[]⟩,
 ⟨some 91,(.load false 1),[.t 90],none,[0]⟩,
 ⟨some 92,.mov,[.t 2],none,[]⟩,
 ⟨some 93,(.bin .rem),[.t 92,.c (.int .i64 4)],none,[2]⟩,
 ⟨some 94,(.bin .mul),[.t 91,.t 93],none,[1,3]⟩,
 ⟨some 95,.call,[.f 139,.t 94],none,[4]⟩,
 ⟨some 15,(.alloc [(.imm (.cpx .f64 0 0))]),[],none,[]⟩,
 ⟨none,(.store 1),[.t 15,.t 95],none,[6,5,5,0,1,2,3,4,5,6]⟩] false)
 (.seq
 (.freeze [15]
 (.region [⟨some 96,(.mkfn 149 0),[.t 15],none,[]⟩,
 ⟨some 16,.mov,[.t 96],none,[0,0]⟩] false))
 (.seq
 (.region [⟨some 97,.mov,[.t 16],none,[]⟩,
 ⟨some 98,(.faddr 1 false 1),[.t 4],none,[]⟩,
 ⟨some 99,(.load false 1),[.t 98],none,[1]⟩,
 ⟨some 100,.call,[.t 97,.t 99],none,[0,2]⟩,
 ⟨some 101,.mov,[.t 16],none,[]⟩,
 ⟨some 102,(.faddr 2 false 1),[.t 4],none,[]⟩,
 ⟨some 103,(.load false 1),[.t 102],none,[5]⟩,
 ⟨some 104,.call,[.t 101,.t 103],none,[4,6,3]⟩,
 ⟨some 105,.mov,[.t 16],none,[]⟩,
 ⟨some 106,(.faddr 3 false 1),[.t 4],none,[]⟩,
 ⟨some 107,(.load false 1),[.t 106],none,[9]⟩,
 ⟨some 108,.call,[.t 105,.t 107],none,[8,10,7]⟩,
 ⟨some 109,(.build [(.imm (.slc 1 [])),(.imm (.slc 1 [])),(.imm (.slc 1 []))] [(0,1),(1,1),(2,1)]),[.t 100,.t 104,.t 108],none,[3,7,11]⟩,
 ⟨some 110,(.faddr 4 true 2),[.t 4],none,[]⟩,
 ⟨some 111,(.load true 2),[.t 110],none,[13]⟩,
 ⟨some 112,.call,[.f 137,.t 111],none,[14,11]⟩,
 ⟨some 113,(.load false 1),[.t 15],none,[]⟩,
 ⟨some 114,(.px (.cpx .mul)),[.t 112,.t 113],none,[15,16]⟩,
 ⟨some 115,.call,[.f 138,.t 114],none,[17,15]⟩,
 ⟨some 116,(.field 0 false 1),[.t 115],none,[18]⟩,
 ⟨none,(.store 3),[.t 6,.t 109],none,[12,18,0,1,2,3,4,5,6,7,8,9,10,11,12]⟩,
 ⟨some 7,.mov,[.t 116],none,[19,20,0,1,2,3,4,5,6,7,8,9,10,11,12,13,14,15,16,17,18,19,20]⟩,
 ⟨some 8,.mov,[.c (.int .i64 0)],none,[21,0,1,2,3,4,5,6,7,8,9,10,11,12,13,14,15,16,17,18,19,20,21]⟩] true)
 .ret)))
def b60k4:DCode :=
 (.seq
 (.seq
 (.region [⟨some 80,.mov,[.t 10],none,[]⟩,
 ⟨some 81,.mov,[.t 2],none,[]⟩,
 ⟨some 82,.call,[.f 148,.t 81,.c (.int .i64 0),.c (.int .i64 1000000000000)],none,[1]⟩,
 ⟨some 83,.call,[.f 135,.t 82,.c (.int .i64 2)],none,[2,2]⟩,
 ⟨some 84,(.bsl 1),[.t 80,.t 83],none,[0,3]⟩,
 ⟨some 85,.call,[.f 134,.t 84],none,[4,3]⟩,
 ⟨some 10,.mov,[.t 85],none,[5,5,0,1,2,3,4,5]⟩] false)
 (.seq
 (.region [⟨some 86,.mov,[.t 10],none,[]⟩,
 ⟨some 87,(.bin .neq),[.t 86,.c (.int .i64 0)],none,[0]⟩] false)
 (.cond (.t 87)
 (.seq
 (.region [⟨some 88,(.build [(.imm (.slc 1 [])),(.imm (.slc 1 [])),(.imm (.slc 1 []))] []),[],none,[]⟩,
 ⟨some 89,.mov,[.t 10],none,[]⟩,
 ⟨none,(.store 3),[.t 6,.t 88],none,[0,0]⟩,
 ⟨some 7,.mov,[.c (.int .i64 0)],none,[2,0,2]⟩,
 ⟨some 8,.mov,[.t 89],none,[1,3,0,1,2,3]⟩] false)
 .ret)
 .skip)))
 (.keep [2,4,6] [4,6] b60k3))
def b60:DCode :=
 (.seq
 (.region [⟨some 3,.box,[.t 0],none,[]⟩,
 ⟨some 4,.box,[.t 1],none,[]⟩,
 ⟨some 6,(.alloc [(.imm (.slc 1 [])),(.imm (.slc 1 [])),(.imm (.slc 1 []))]),[],none,[]⟩,
 ⟨some 7,.mov,[.c (.int .i64 0)],none,[]⟩,
 ⟨some 8,.mov,[.c (.int .i64 0)],none,[3]⟩] false)
 (.seq
 (.region [⟨some 18,(.load true 2),[.t 3],none,[]⟩,
 ⟨some 19,.call,[.f 145,.t 18],none,[0]⟩,
 ⟨some 17,.mov,[.t 19],none,[1]⟩,
 ⟨some 20,(.ext 0),[.t 17],none,[2]⟩,
 ⟨some 21,(.ext 1),[.t 17],none,[2]⟩,
 ⟨some 9,(.alloc [(.imm (.slc 2 [])),(.imm (.slc 1 [])),(.imm (.slc 1 [])),(.imm (.int .i64 0))]),[],none,[]⟩,
 ⟨none,(.store 4),[.t 9,.t 20],none,[5,3,1,0,1,2,3,5]⟩,
 ⟨some 10,.mov,[.t 21],none,[4,6,0,1,2,3,4,5,6]⟩] false)
 (.seq
 (.region [⟨some 22,.mov,[.t 10],none,[]⟩,
 ⟨some 23,(.faddr 0 false 1),[.t 4],none,[]⟩,
 ⟨some 24,(.load false 1),[.t 23],none,[1]⟩,
 ⟨some 25,.call,[.f 146,.t 24],none,[2]⟩,
 ⟨some 26,(.faddr 1 false 1),[.t 4],none,[]⟩,
 ⟨some 27,(.load false 1),[.t 26],none,[4]⟩,
 ⟨some 28,.len,[.t 27],none,[5]⟩,
 ⟨some 29,(.faddr 3 false 1),[.t 9],none,[]⟩,
 ⟨some 30,(.load false 1),[.t 29],none,[7]⟩,
 ⟨some 31,(.bin .eql),[.t 28,.t 30],none,[6,8]⟩,
 ⟨some 32,.mov,[.t 31],none,[9,3]⟩,
 ⟨some 33,(.faddr 2 false 1),[.t 4],(some (32,true)),[10]⟩,
 ⟨some 34,(.load false 1),[.t 33],(some (32,true)),[11,10]⟩,
 ⟨some 35,.len,[.t 34],(some (32,true)),[12,10]⟩,
 ⟨some 36,(.faddr 3 false 1),[.t 9],(some (32,true)),[10]⟩,
 ⟨some 37,(.load false 1),[.t 36],(some (32,true)),[14,10]⟩,
 ⟨some 38,(.bin .eql),[.t 35,.t 37],(some (32,true)),[13,15,10]⟩,
 ⟨some 39,.pick,[.t 32,.t 38,.c (.bool false)],none,[10,16]⟩,
 ⟨some 40,.mov,[.t 39],none,[17,10]⟩,
 ⟨some 41,(.faddr 3 false 1),[.t 4],(some (40,true)),[18]⟩,
 ⟨some 42,(.load false 1),[.t 41],(some (40,true)),[19,18]⟩,
 ⟨some 43,.len,[.t 42],(some (40,true)),[20,18]⟩,
 ⟨some 44,(.faddr 0 true 2),[.t 9],(some (40,true)),[18]⟩,
 ⟨some 45,(.faddr 1 false 1),[.t 44],(some (40,true)),[22,18]⟩,
 ⟨some 46,(.load false 1),[.t 45],(some (40,true)),[23,18]⟩,
 ⟨some 47,.len,[.t 46],(some (40,true)),[24,18]⟩,
 ⟨some 48,(.bin .eql),[.t 43,.t 47],(some (40,true)),[21,25,18]⟩,
 ⟨some 49,.pick,[.t 40,.t 48,.c (.bool false)],none,[18,26]⟩,
 ⟨some 50,.call,[.f 135,.t 49,.c (.int .i64 10)],none,[27,18]⟩,
 ⟨some 51,(.bsl 1),[.t 22,.t 25,.t 50],none,[0,3,28]⟩,
 ⟨some 52,.call,[.f 134,.t 51],none,[29,28]⟩,
 ⟨some 10,.mov,[.t 52],none,[30,30,0,1,2,3,4,5,6,7,8,9,10,11,12,13,14,15,16,17,18,19,20,21,22,23,24,25,26,27,28,29,30]⟩] true)
 (.seq
 (.seq
 (.region [⟨some 53,(.faddr 1 false 1),[.t 4],none,[]⟩,
 ⟨some 54,(.load false 1),[.t 53],none,[0]⟩,
 ⟨some 55,(.faddr 2 false 1),[.t 4],none,[]⟩,
 ⟨some 56,(.load false 1),[.t 55],none,[2]⟩,
 ⟨some 57,(.faddr 3 false 1),[.t 4],none,[]⟩,
 ⟨some 58,(.load false 1),[.t 57],none,[4]⟩,
 ⟨some 59,(.faddr 4 true 2),[.t 4],none,[]⟩,
 ⟨some 60,(.load true 2),[.t 59],none,[6]⟩,
 ⟨some 61,(.bsl 2),[.t 60],none,[7]⟩,
 ⟨some 62,(.build [(.imm (.slc 2 [])),(.imm (.slc 2 [])),(.imm (.slc 2 [])),(.imm (.slc 2 []))] [(0,1),(1,1),(2,1),(3,1)]),[.t 54,.t 56,.t 58,.t 61],none,[1,3,5,8]⟩,
 ⟨some 63,.mov,[.c (.int .i64 0)],none,[]⟩] false)
 (.block 0
 (.loop b60l1)))
 (.keep [2,4,6,10] [4,6] b60k4)))))
def d60:DFn:=⟨3,117,[.cell 6 true 3,.tmp 7,.tmp 8],b60⟩
theorem body60:d60.body=b60:=rfl
theorem res60:d60.res=[.cell 6 true 3,.tmp 7,.tmp 8]:=rfl
theorem k60:chkFn Tryz.prog Tryz.f60 d60=true:=by kernel_rfl
def b149k0:DCode :=
 (.seq
 (.block 1
 (.seq
 (.region [⟨some 11,(.iaddr 2),[.t 7,.t 9],none,[]⟩,
 ⟨some 12,(.load true 2),[.t 11],none,[0]⟩,
 ⟨some 6,(.alloc [(.imm (.int .i64 0)),(.imm (.int .i64 0))]),[],none,[]⟩,
 ⟨none,(.store 2),[.t 6,.t 12],none,[2,1,0,1,2]⟩] false)
 (.region [⟨some 13,.mov,[.t 4],none,[]⟩,
 ⟨some 14,(.load true 2),[.t 6],none,[]⟩,
 ⟨some 15,.call,[.f 137,.t 14],none,[1]⟩,
 ⟨some 16,(.load false 1),[.t 1],none,[]⟩,
 ⟨some 17,(.px (.cpx .mul)),[.t 15,.t 16],none,[2,3]⟩,
 ⟨some 18,.call,[.f 138,.t 17],none,[4,2]⟩,
 ⟨some 19,(.field 0 false 1),[.t 18],none,[5]⟩,
 ⟨some 20,(.bsl 1),[.t 19],none,[6]⟩,
 ⟨some 21,(.append 1 8 false),[.t 13,.t 20],none,[0,7,5]⟩,
 ⟨some 4,.mov,[.t 21],none,[8,8,0,1,2,3,4,5,6,7,8]⟩] true)))
 (.region [⟨some 22,(.bin .add),[.t 9,.c (.int .i64 1)],none,[]⟩,
 ⟨some 9,.mov,[.t 22],none,[0]⟩] false))
def b149l0:DCode:=.keep [1,4,7,8,9] [4,21]
 (.seq
 (.region [⟨some 10,(.bin .lss),[.t 9,.t 8],none,[]⟩] false)
 (.seq
 (.cond (.t 10)
 .skip
 (.exit 0))
 (.keep [1,4,7,8,9] [4,21] b149k0)))
def b149k1:DCode :=
 (.seq
 (.region [⟨some 23,.movv,[.t 4],none,[]⟩,
 ⟨some 3,.movv,[.t 23],none,[0,0]⟩] false)
 .ret)
def b149:DCode :=
 (.seq
 (.region [⟨some 3,.mov,[.c (.slc 1 [])],none,[]⟩] false)
 (.seq
 (.region [⟨some 4,(.ntok 1),[.c (.slc 1 [])],none,[]⟩] false)
 (.seq
 (.seq
 (.region [⟨some 7,.movv,[.t 0],none,[]⟩,
 ⟨some 8,.len,[.t 7],none,[0]⟩,
 ⟨some 9,.mov,[.c (.int .i64 0)],none,[]⟩] false)
 (.block 0
 (.loop b149l0)))
 (.keep [4] [4,21] b149k1))))
def d149:DFn:=⟨2,24,[.tmp 3],b149⟩
theorem body149:d149.body=b149:=rfl
theorem res149:d149.res=[.tmp 3]:=rfl
theorem k149:chkFn Tryz.prog Tryz.f149 d149=true:=by kernel_rfl
end Go.DI


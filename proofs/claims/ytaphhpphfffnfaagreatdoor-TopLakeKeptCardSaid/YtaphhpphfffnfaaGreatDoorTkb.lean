/- The functions of the strings of lakes, as data. No condition. -/
import Derived.Test.YtaphhpphfffnfaaGreatDoorTkGe
import Derived.Test.YtaphhpphfffnfaaGreatDoorProg
import Derived.KernelRfl
namespace Go.DI
open Go.Proofs Go.RowKit
def b116k0:DCode :=
 (.seq
 (.block 3
 (.seq
 (.region [⟨some 19,(.iaddr 1),[.t 15,.t 17],none,[]⟩,
 ⟨some 20,(.load false 1),[.t 19],none,[0]⟩,
 ⟨some 8,.mov,[.t 20],none,[1,0,1]⟩] false)
 (.region [⟨some 21,.mov,[.t 6],none,[]⟩,
 ⟨some 22,.mov,[.t 8],none,[]⟩,
 ⟨some 23,.call,[.f 95,.t 22],none,[1]⟩,
 ⟨some 24,(.bsl 1),[.t 23],none,[2]⟩,
 ⟨some 25,(.append 1 16 false),[.t 21,.t 24],none,[0,3,2]⟩,
 ⟨some 6,.mov,[.t 25],none,[4,4,0,1,2,3,4]⟩] false)))
 (.region [⟨some 26,(.bin .add),[.t 17,.c (.int .i64 1)],none,[]⟩,
 ⟨some 17,.mov,[.t 26],none,[0]⟩] false))
def b116l0:DCode:=.keep [3,6,9,10,11,15,16,17] [3,6,25,31]
 (.seq
 (.region [⟨some 18,(.bin .lss),[.t 17,.t 16],none,[]⟩] false)
 (.seq
 (.cond (.t 18)
 .skip
 (.exit 2))
 (.keep [3,6,9,10,11,15,16,17] [3,6,25,31] b116k0)))
def b116k1:DCode :=
 (.region [⟨some 27,.mov,[.t 3],none,[]⟩,
 ⟨some 28,.movv,[.t 6],none,[]⟩,
 ⟨some 29,.call,[.f 96,.t 28,.c (.str ⟨#[32]⟩)],none,[1]⟩,
 ⟨some 30,(.bsl 1),[.t 29],none,[2]⟩,
 ⟨some 31,(.append 1 16 false),[.t 27,.t 30],none,[0,3,2]⟩,
 ⟨some 3,.mov,[.t 31],none,[4,4,0,1,2,3,4]⟩] false)
def b116k2:DCode :=
 (.region [⟨some 32,(.bin .add),[.t 11,.c (.int .i64 1)],none,[]⟩,
 ⟨some 11,.mov,[.t 32],none,[0]⟩] false)
def b116k3:DCode :=
 (.seq
 (.block 1
 (.seq
 (.region [⟨some 13,(.iaddr 1),[.t 9,.t 11],none,[]⟩,
 ⟨some 14,(.load false 1),[.t 13],none,[0]⟩,
 ⟨some 5,.movv,[.t 14],none,[1,0,1]⟩] false)
 (.seq
 (.region [⟨some 6,(.ntok 1),[.c (.slc 1 [])],none,[]⟩] false)
 (.seq
 (.seq
 (.region [⟨some 15,.movv,[.t 5],none,[]⟩,
 ⟨some 16,.len,[.t 15],none,[0]⟩,
 ⟨some 17,.mov,[.c (.int .i64 0)],none,[]⟩] false)
 (.block 2
 (.loop b116l0)))
 (.keep [3,6,9,10,11] [3,6,25,31] b116k1)))))
 (.keep [3,9,10,11] [3,31] b116k2))
def b116l1:DCode:=.keep [3,9,10,11] [3,31]
 (.seq
 (.region [⟨some 12,(.bin .lss),[.t 11,.t 10],none,[]⟩] false)
 (.seq
 (.cond (.t 12)
 .skip
 (.exit 0))
 (.keep [3,9,10,11] [3,31] b116k3)))
def b116k4:DCode :=
 (.seq
 (.region [⟨some 33,.movv,[.t 3],none,[]⟩,
 ⟨some 34,.call,[.f 96,.t 33,.c (.str ⟨#[59]⟩)],none,[0]⟩,
 ⟨some 2,.mov,[.t 34],none,[1,1,0,1]⟩] false)
 .ret)
def b116:DCode :=
 (.seq
 (.region [⟨some 2,.mov,[.c (.str ⟨#[]⟩)],none,[]⟩] false)
 (.seq
 (.region [⟨some 3,(.ntok 1),[.c (.slc 1 [])],none,[]⟩] false)
 (.seq
 (.seq
 (.region [⟨some 9,.movv,[.t 0],none,[]⟩,
 ⟨some 10,.len,[.t 9],none,[0]⟩,
 ⟨some 11,.mov,[.c (.int .i64 0)],none,[]⟩] false)
 (.block 0
 (.loop b116l1)))
 (.keep [3] [3,31] b116k4))))
def d116:DFn:=⟨1,35,[.tmp 2],b116⟩
theorem body116:d116.body=b116:=rfl
theorem res116:d116.res=[.tmp 2]:=rfl
theorem k116:chkFn Tryz.prog Tryz.f116 d116=true:=by kernel_rfl
def b117k0:DCode :=
 (.region [⟨some 68,.mov,[.t 14],none,[]⟩,
 ⟨some 69,.mov,[.t 17],none,[]⟩,
 ⟨some 70,(.bsl 1),[.t 69],none,[1]⟩,
 ⟨some 71,(.append 1 8 false),[.t 68,.t 70],none,[0,2]⟩,
 ⟨some 14,.mov,[.t 71],none,[3,3,0,1,2,3]⟩] false)
def b117k1:DCode :=
 (.region [⟨some 72,(.bin .add),[.t 34,.c (.int .i64 1)],none,[]⟩,
 ⟨some 34,.mov,[.t 72],none,[0]⟩] false)
def b117k2:DCode :=
 (.seq
 (.block 3
 (.seq
 (.region [⟨some 36,.mov,[.t 34],none,[]⟩,
 ⟨some 37,(.iaddr 1),[.t 32,.t 34],none,[]⟩,
 ⟨some 38,(.load false 1),[.t 37],none,[1]⟩,
 ⟨some 15,.mov,[.t 36],none,[0,0,1,2]⟩,
 ⟨some 16,.mov,[.t 38],none,[2,3,0,1,2,3]⟩] false)
 (.seq
 (.region [⟨some 40,.mov,[.t 16],none,[]⟩,
 ⟨some 41,.call,[.f 109,.t 40],none,[0]⟩,
 ⟨some 39,.mov,[.t 41],none,[1]⟩,
 ⟨some 42,(.ext 0),[.t 39],none,[2]⟩,
 ⟨some 43,(.ext 1),[.t 39],none,[2]⟩,
 ⟨some 17,.mov,[.t 42],none,[3,1,0,1,2,3]⟩,
 ⟨some 18,.mov,[.t 43],none,[4,5,0,1,2,3,4,5]⟩] false)
 (.seq
 (.seq
 (.region [⟨some 44,.mov,[.t 18],none,[]⟩,
 ⟨some 45,(.inil true),[.t 44,.c .nili],none,[0]⟩,
 ⟨some 46,.mov,[.t 45],none,[1]⟩,
 ⟨some 47,.mov,[.t 17],(some (46,false)),[2]⟩,
 ⟨some 48,.call,[.f 95,.t 47],(some (46,false)),[3,2,2]⟩,
 ⟨some 49,.mov,[.t 16],(some (46,false)),[2]⟩,
 ⟨some 50,(.bin .neq),[.t 48,.t 49],(some (46,false)),[4,5,2]⟩,
 ⟨some 51,.pick,[.t 46,.c (.bool true),.t 50],none,[2,6]⟩,
 ⟨some 52,.mov,[.t 51],none,[7,4]⟩,
 ⟨some 53,.mov,[.t 17],(some (52,false)),[8]⟩,
 ⟨some 54,(.bin .lss),[.t 53,.c (.int .i64 0)],(some (52,false)),[9,8]⟩,
 ⟨some 55,.mov,[.t 54],(some (52,false)),[10,8,8]⟩,
 ⟨some 56,.mov,[.t 15],(some (55,true)),[11]⟩,
 ⟨some 57,.mov,[.t 3],(some (55,true)),[11]⟩,
 ⟨some 58,(.bin .neq),[.t 56,.t 57],(some (55,true)),[12,13,11]⟩,
 ⟨some 59,.pick,[.t 55,.t 58,.c (.bool false)],(some (52,false)),[11,14,8]⟩,
 ⟨some 60,.pick,[.t 52,.c (.bool true),.t 59],none,[8,15]⟩,
 ⟨some 61,.mov,[.t 60],none,[16,11]⟩,
 ⟨some 62,.mov,[.t 16],(some (61,false)),[17]⟩,
 ⟨some 63,.call,[.f 211,.t 62,.c (.str ⟨#[45]⟩)],(some (61,false)),[18,17,17]⟩,
 ⟨some 64,.slen,[.t 63],(some (61,false)),[19,17]⟩,
 ⟨some 65,.mov,[.t 2],(some (61,false)),[17]⟩,
 ⟨some 66,(.bin .gtr),[.t 64,.t 65],(some (61,false)),[20,21,17]⟩,
 ⟨some 67,.pick,[.t 61,.c (.bool true),.t 66],none,[17,22]⟩] false)
 (.cond (.t 67)
 (.seq
 (.region [⟨some 8,.mov,[.c (.slc 1 [])],none,[]⟩,
 ⟨some 9,.mov,[.c (.bool false)],none,[0,0]⟩] false)
 .ret)
 .skip))
 (.keep [1,2,3,10,14,17,20,21,22,32,33,34] [10,14,71,76] b117k0)))))
 (.keep [1,2,3,10,14,20,21,22,32,33,34] [10,14,71,76] b117k1))
def b117l0:DCode:=.keep [1,2,3,10,14,20,21,22,32,33,34] [10,14,71,76]
 (.seq
 (.region [⟨some 35,(.bin .lss),[.t 34,.t 33],none,[]⟩] false)
 (.seq
 (.cond (.t 35)
 .skip
 (.exit 2))
 (.keep [1,2,3,10,14,20,21,22,32,33,34] [10,14,71,76] b117k2)))
def b117k3:DCode :=
 (.region [⟨some 73,.mov,[.t 10],none,[]⟩,
 ⟨some 74,.movv,[.t 14],none,[]⟩,
 ⟨some 75,(.bsl 1),[.t 74],none,[1]⟩,
 ⟨some 76,(.append 1 24 false),[.t 73,.t 75],none,[0,2]⟩,
 ⟨some 10,.mov,[.t 76],none,[3,3,0,1,2,3]⟩] false)
def b117k4:DCode :=
 (.seq
 (.region [⟨some 14,(.ntok 1),[.c (.slc 1 [])],none,[]⟩] false)
 (.seq
 (.seq
 (.region [⟨some 32,.movv,[.t 13],none,[]⟩,
 ⟨some 33,.len,[.t 32],none,[0]⟩,
 ⟨some 34,.mov,[.c (.int .i64 0)],none,[]⟩] false)
 (.block 2
 (.loop b117l0)))
 (.keep [1,2,3,10,14,20,21,22] [10,14,71,76] b117k3)))
def b117k5:DCode :=
 (.region [⟨some 77,(.bin .add),[.t 22,.c (.int .i64 1)],none,[]⟩,
 ⟨some 22,.mov,[.t 77],none,[0]⟩] false)
def b117k6:DCode :=
 (.seq
 (.block 1
 (.seq
 (.region [⟨some 24,(.iaddr 1),[.t 20,.t 22],none,[]⟩,
 ⟨some 25,(.load false 1),[.t 24],none,[0]⟩,
 ⟨some 12,.mov,[.t 25],none,[1,0,1]⟩] false)
 (.seq
 (.region [⟨some 26,.mov,[.t 12],none,[]⟩,
 ⟨some 27,.call,[.f 97,.t 26,.c (.str ⟨#[32]⟩)],none,[0]⟩,
 ⟨some 13,.movv,[.t 27],none,[1,1,0,1]⟩] false)
 (.seq
 (.seq
 (.region [⟨some 28,.movv,[.t 13],none,[]⟩,
 ⟨some 29,.len,[.t 28],none,[0]⟩,
 ⟨some 30,.mov,[.t 1],none,[]⟩,
 ⟨some 31,(.bin .neq),[.t 29,.t 30],none,[1,2]⟩] false)
 (.cond (.t 31)
 (.seq
 (.region [⟨some 8,.mov,[.c (.slc 1 [])],none,[]⟩,
 ⟨some 9,.mov,[.c (.bool false)],none,[0,0]⟩] false)
 .ret)
 .skip))
 (.keep [1,2,3,10,13,20,21,22] [10,76] b117k4)))))
 (.keep [1,2,3,10,20,21,22] [10,76] b117k5))
def b117l1:DCode:=.keep [1,2,3,10,20,21,22] [10,76]
 (.seq
 (.region [⟨some 23,(.bin .lss),[.t 22,.t 21],none,[]⟩] false)
 (.seq
 (.cond (.t 23)
 .skip
 (.exit 0))
 (.keep [1,2,3,10,20,21,22] [10,76] b117k6)))
def b117k7:DCode :=
 (.seq
 (.region [⟨some 78,.movv,[.t 10],none,[]⟩,
 ⟨some 8,.movv,[.t 78],none,[0,0]⟩,
 ⟨some 9,.mov,[.c (.bool true)],none,[1,0,1]⟩] false)
 .ret)
def b117:DCode :=
 (.seq
 (.region [⟨some 8,.mov,[.c (.slc 1 [])],none,[]⟩,
 ⟨some 9,.mov,[.c (.bool false)],none,[0]⟩] false)
 (.seq
 (.region [⟨some 10,(.ntok 1),[.c (.slc 1 [])],none,[]⟩] false)
 (.seq
 (.seq
 (.region [⟨some 19,.mov,[.t 0],none,[]⟩,
 ⟨some 20,.call,[.f 97,.t 19,.c (.str ⟨#[59]⟩)],none,[0]⟩,
 ⟨some 21,.len,[.t 20],none,[1]⟩,
 ⟨some 22,.mov,[.c (.int .i64 0)],none,[]⟩] false)
 (.block 0
 (.loop b117l1)))
 (.keep [10] [10,76] b117k7))))
def d117:DFn:=⟨4,79,[.tmp 8,.tmp 9],b117⟩
theorem body117:d117.body=b117:=rfl
theorem res117:d117.res=[.tmp 8,.tmp 9]:=rfl
theorem k117:chkFn Tryz.prog Tryz.f117 d117=true:=by kernel_rfl
def b27k0:DCode :=
 (.seq
 (.block 1
 (.seq
 (.region [⟨some 11,(.iaddr 2),[.t 7,.t 9],none,[]⟩,
 ⟨some 12,(.load true 2),[.t 11],none,[0]⟩,
 ⟨some 5,(.alloc [(.imm (.int .i64 0)),(.imm (.int .i64 0))]),[],none,[]⟩,
 ⟨none,(.store 2),[.t 5,.t 12],none,[2,1,0,1,2]⟩] false)
 (.region [⟨some 13,.mov,[.t 3],none,[]⟩,
 ⟨some 14,(.faddr 0 false 1),[.t 5],none,[]⟩,
 ⟨some 15,(.load false 1),[.t 14],none,[1]⟩,
 ⟨some 16,(.faddr 1 false 1),[.t 5],none,[]⟩,
 ⟨some 17,(.load false 1),[.t 16],none,[3]⟩,
 ⟨some 18,(.bsl 1),[.t 15,.t 17],none,[2,4]⟩,
 ⟨some 19,(.bsl 1),[.t 18],none,[5]⟩,
 ⟨some 20,(.append 1 24 false),[.t 13,.t 19],none,[0,6]⟩,
 ⟨some 3,.mov,[.t 20],none,[7,7,0,1,2,3,4,5,6,7]⟩] false)))
 (.region [⟨some 21,(.bin .add),[.t 9,.c (.int .i64 1)],none,[]⟩,
 ⟨some 9,.mov,[.t 21],none,[0]⟩] false))
def b27l0:DCode:=.keep [3,7,8,9] [3,20]
 (.seq
 (.region [⟨some 10,(.bin .lss),[.t 9,.t 8],none,[]⟩] false)
 (.seq
 (.cond (.t 10)
 .skip
 (.exit 0))
 (.keep [3,7,8,9] [3,20] b27k0)))
def b27k1:DCode :=
 (.seq
 (.region [⟨some 22,.movv,[.t 3],none,[]⟩,
 ⟨some 23,.call,[.f 116,.t 22],none,[0]⟩,
 ⟨some 2,.mov,[.t 23],none,[1,1,0,1]⟩] false)
 .ret)
def b27:DCode :=
 (.seq
 (.region [⟨some 1,.box,[.t 0],none,[]⟩,
 ⟨some 2,.mov,[.c (.str ⟨#[]⟩)],none,[]⟩] false)
 (.seq
 (.region [⟨some 3,(.ntok 1),[.c (.slc 1 [])],none,[]⟩] false)
 (.seq
 (.seq
 (.region [⟨some 6,(.faddr 0 false 1),[.t 1],none,[]⟩,
 ⟨some 7,(.load false 1),[.t 6],none,[0]⟩,
 ⟨some 8,.len,[.t 7],none,[1]⟩,
 ⟨some 9,.mov,[.c (.int .i64 0)],none,[]⟩] false)
 (.block 0
 (.loop b27l0)))
 (.keep [3] [3,20] b27k1))))
def d27:DFn:=⟨1,24,[.tmp 2],b27⟩
theorem body27:d27.body=b27:=rfl
theorem res27:d27.res=[.tmp 2]:=rfl
theorem k27:chkFn Tryz.prog Tryz.f27 d27=true:=by kernel_rfl
def b35k0:DCode :=
 (.seq
 (.block 1
 (.seq
 (.region [⟨some 10,(.iaddr 3),[.t 6,.t 8],none,[]⟩,
 ⟨some 11,(.load true 3),[.t 10],none,[0]⟩,
 ⟨some 5,(.alloc [(.imm (.int .i64 0)),(.imm (.int .i64 0)),(.imm (.int .i64 0))]),[],none,[]⟩,
 ⟨none,(.store 3),[.t 5,.t 11],none,[2,1,0,1,2]⟩] false)
 (.region [⟨some 12,.mov,[.t 3],none,[]⟩,
 ⟨some 13,(.faddr 0 false 1),[.t 5],none,[]⟩,
 ⟨some 14,(.load false 1),[.t 13],none,[1]⟩,
 ⟨some 15,(.faddr 1 false 1),[.t 5],none,[]⟩,
 ⟨some 16,(.load false 1),[.t 15],none,[3]⟩,
 ⟨some 17,(.faddr 2 false 1),[.t 5],none,[]⟩,
 ⟨some 18,(.load false 1),[.t 17],none,[5]⟩,
 ⟨some 19,(.bsl 1),[.t 14,.t 16,.t 18],none,[2,4,6]⟩,
 ⟨some 20,(.bsl 1),[.t 19],none,[7]⟩,
 ⟨some 21,(.append 1 24 false),[.t 12,.t 20],none,[0,8]⟩,
 ⟨some 3,.mov,[.t 21],none,[9,9,0,1,2,3,4,5,6,7,8,9]⟩] false)))
 (.region [⟨some 22,(.bin .add),[.t 8,.c (.int .i64 1)],none,[]⟩,
 ⟨some 8,.mov,[.t 22],none,[0]⟩] false))
def b35l0:DCode:=.keep [3,6,7,8] [3,21]
 (.seq
 (.region [⟨some 9,(.bin .lss),[.t 8,.t 7],none,[]⟩] false)
 (.seq
 (.cond (.t 9)
 .skip
 (.exit 0))
 (.keep [3,6,7,8] [3,21] b35k0)))
def b35k1:DCode :=
 (.seq
 (.region [⟨some 23,.movv,[.t 3],none,[]⟩,
 ⟨some 24,.call,[.f 116,.t 23],none,[0]⟩,
 ⟨some 2,.mov,[.t 24],none,[1,1,0,1]⟩] false)
 .ret)
def b35:DCode :=
 (.seq
 (.region [⟨some 2,.mov,[.c (.str ⟨#[]⟩)],none,[]⟩] false)
 (.seq
 (.region [⟨some 3,(.ntok 1),[.c (.slc 1 [])],none,[]⟩] false)
 (.seq
 (.seq
 (.region [⟨some 6,.movv,[.t 0],none,[]⟩,
 ⟨some 7,.len,[.t 6],none,[0]⟩,
 ⟨some 8,.mov,[.c (.int .i64 0)],none,[]⟩] false)
 (.block 0
 (.loop b35l0)))
 (.keep [3] [3,21] b35k1))))
def d35:DFn:=⟨1,25,[.tmp 2],b35⟩
theorem body35:d35.body=b35:=rfl
theorem res35:d35.res=[.tmp 2]:=rfl
theorem k35:chkFn Tryz.prog Tryz.f35 d35=true:=by kernel_rfl
def b29k0:DCode :=
 (.seq
 (.block 1
 (.seq
 (.region [⟨some 26,(.iaddr 1),[.t 22,.t 24],none,[]⟩,
 ⟨some 27,(.load false 1),[.t 26],none,[0]⟩,
 ⟨some 8,.movv,[.t 27],none,[1,0,1]⟩] false)
 (.region [⟨some 28,(.faddr 0 false 1),[.t 6],none,[]⟩,
 ⟨some 29,(.load false 1),[.t 28],none,[0]⟩,
 ⟨some 30,.movv,[.t 8],none,[]⟩,
 ⟨some 31,(.iaddr 1),[.t 30,.c (.int .i64 0)],none,[2]⟩,
 ⟨some 32,(.load false 1),[.t 31],none,[3]⟩,
 ⟨some 33,.movv,[.t 8],none,[]⟩,
 ⟨some 34,(.iaddr 1),[.t 33,.c (.int .i64 1)],none,[5]⟩,
 ⟨some 35,(.load false 1),[.t 34],none,[6]⟩,
 ⟨some 36,(.build [(.imm (.int .i64 0)),(.imm (.int .i64 0))] [(0,1),(1,1)]),[.t 32,.t 35],none,[4,7]⟩,
 ⟨some 37,(.bsl 2),[.t 36],none,[8]⟩,
 ⟨some 38,(.append 2 16 false),[.t 29,.t 37],none,[1,9]⟩,
 ⟨some 39,(.faddr 0 false 1),[.t 6],none,[0,1,2,3,4,5,6,7,8,9,10]⟩,
 ⟨none,(.store 1),[.t 39,.t 38],none,[11,10,10,0,1,2,3,4,5,6,7,8,9,10]⟩] true)))
 (.region [⟨some 40,(.bin .add),[.t 24,.c (.int .i64 1)],none,[]⟩,
 ⟨some 24,.mov,[.t 40],none,[0]⟩] false))
def b29l0:DCode:=.keep [2,6,22,23,24] [2,6,38,1006]
 (.seq
 (.region [⟨some 25,(.bin .lss),[.t 24,.t 23],none,[]⟩] false)
 (.seq
 (.cond (.t 25)
 .skip
 (.exit 0))
 (.keep [2,6,22,23,24] [2,6,38,1006] b29k0)))
def b29k1:DCode :=
 (.seq
 (.region [⟨some 47,(.load true 1),[.t 6],none,[]⟩,
 ⟨none,(.store 1),[.t 2,.t 47],none,[0,0]⟩,
 ⟨some 3,.mov,[.c (.int .i64 0)],none,[1,0,1]⟩] false)
 .ret)
def b29k2:DCode :=
 (.seq
 (.seq
 (.region [⟨some 41,(.load true 1),[.t 6],none,[]⟩,
 ⟨some 42,.call,[.f 118,.t 41],none,[0]⟩,
 ⟨some 9,.mov,[.t 42],none,[1,1,0,1]⟩] false)
 (.seq
 (.region [⟨some 43,.mov,[.t 9],none,[]⟩,
 ⟨some 44,(.bin .neq),[.t 43,.c (.int .i64 0)],none,[0]⟩] false)
 (.cond (.t 44)
 (.seq
 (.region [⟨some 45,(.build [(.imm (.slc 2 []))] []),[],none,[]⟩,
 ⟨some 46,.mov,[.t 9],none,[]⟩,
 ⟨none,(.store 1),[.t 2,.t 45],none,[0,0]⟩,
 ⟨some 3,.mov,[.t 46],none,[1,2,0,1,2]⟩] false)
 .ret)
 .skip)))
 (.keep [2,6] [2,6,38,1006] b29k1))
def b29k3:DCode :=
 (.seq
 (.region [⟨some 6,(.alloc [(.cap0 2 [])]),[],none,[]⟩] false)
 (.mktok 6 0 1006 2
 (.seq
 (.seq
 (.region [⟨some 22,.movv,[.t 4],none,[]⟩,
 ⟨some 23,.len,[.t 22],none,[0]⟩,
 ⟨some 24,.mov,[.c (.int .i64 0)],none,[]⟩] false)
 (.block 0
 (.loop b29l0)))
 (.keep [2,6] [2,6,38,1006] b29k2))))
def b29k4:DCode :=
 (.seq
 (.region [⟨some 15,.mov,[.t 0],none,[]⟩,
 ⟨some 16,.call,[.f 117,.t 15,.c (.int .i64 2),.c (.int .i64 10),.c (.int .i64 (-1))],none,[0]⟩,
 ⟨some 14,.mov,[.t 16],none,[1]⟩,
 ⟨some 17,(.ext 0),[.t 14],none,[2]⟩,
 ⟨some 18,(.ext 1),[.t 14],none,[2]⟩,
 ⟨some 4,.movv,[.t 17],none,[3,1,0,1,2,3]⟩,
 ⟨some 5,.mov,[.t 18],none,[4,5,0,1,2,3,4,5]⟩] false)
 (.seq
 (.seq
 (.region [⟨some 19,.mov,[.t 5],none,[]⟩,
 ⟨some 20,(.un .not),[.t 19],none,[0]⟩] false)
 (.cond (.t 20)
 (.seq
 (.region [⟨some 21,(.build [(.imm (.slc 2 []))] []),[],none,[]⟩,
 ⟨none,(.store 1),[.t 2,.t 21],none,[0,0]⟩,
 ⟨some 3,.mov,[.c (.int .i64 7)],none,[1,0,1]⟩] false)
 .ret)
 .skip))
 (.keep [2,4] [2,38,1006] b29k3)))
def b29:DCode :=
 (.seq
 (.region [⟨some 2,(.alloc [(.imm (.slc 2 []))]),[],none,[]⟩,
 ⟨some 3,.mov,[.c (.int .i64 0)],none,[]⟩] false)
 (.seq
 (.seq
 (.region [⟨some 10,.mov,[.t 0],none,[]⟩,
 ⟨some 11,.slen,[.t 10],none,[0]⟩,
 ⟨some 12,(.bin .gtr),[.t 11,.c (.int .i64 60000)],none,[1]⟩] false)
 (.cond (.t 12)
 (.seq
 (.region [⟨some 13,(.build [(.imm (.slc 2 []))] []),[],none,[]⟩,
 ⟨none,(.store 1),[.t 2,.t 13],none,[0,0]⟩,
 ⟨some 3,.mov,[.c (.int .i64 8)],none,[1,0,1]⟩] false)
 .ret)
 .skip))
 (.keep [0,2] [2,38,1006] b29k4)))
def d29:DFn:=⟨1,48,[.cell 2 true 1,.tmp 3],b29⟩
theorem body29:d29.body=b29:=rfl
theorem res29:d29.res=[.cell 2 true 1,.tmp 3]:=rfl
theorem k29:chkFn Tryz.prog Tryz.f29 d29=true:=by kernel_rfl
def b37k0:DCode :=
 (.seq
 (.block 1
 (.seq
 (.region [⟨some 26,(.iaddr 1),[.t 22,.t 24],none,[]⟩,
 ⟨some 27,(.load false 1),[.t 26],none,[0]⟩,
 ⟨some 8,.movv,[.t 27],none,[1,0,1]⟩] false)
 (.region [⟨some 28,.mov,[.t 6],none,[]⟩,
 ⟨some 29,.movv,[.t 8],none,[]⟩,
 ⟨some 30,(.iaddr 1),[.t 29,.c (.int .i64 0)],none,[1]⟩,
 ⟨some 31,(.load false 1),[.t 30],none,[2]⟩,
 ⟨some 32,.movv,[.t 8],none,[]⟩,
 ⟨some 33,(.iaddr 1),[.t 32,.c (.int .i64 1)],none,[4]⟩,
 ⟨some 34,(.load false 1),[.t 33],none,[5]⟩,
 ⟨some 35,.movv,[.t 8],none,[]⟩,
 ⟨some 36,(.iaddr 1),[.t 35,.c (.int .i64 2)],none,[7]⟩,
 ⟨some 37,(.load false 1),[.t 36],none,[8]⟩,
 ⟨some 38,(.build [(.imm (.int .i64 0)),(.imm (.int .i64 0)),(.imm (.int .i64 0))] [(0,1),(1,1),(2,1)]),[.t 31,.t 34,.t 37],none,[3,6,9]⟩,
 ⟨some 39,(.bsl 3),[.t 38],none,[10]⟩,
 ⟨some 40,(.append 3 24 false),[.t 28,.t 39],none,[0,11]⟩,
 ⟨some 6,.mov,[.t 40],none,[12,12,0,1,2,3,4,5,6,7,8,9,10,11,12]⟩] true)))
 (.region [⟨some 41,(.bin .add),[.t 24,.c (.int .i64 1)],none,[]⟩,
 ⟨some 24,.mov,[.t 41],none,[0]⟩] false))
def b37l0:DCode:=.keep [6,22,23,24] [6,40]
 (.seq
 (.region [⟨some 25,(.bin .lss),[.t 24,.t 23],none,[]⟩] false)
 (.seq
 (.cond (.t 25)
 .skip
 (.exit 0))
 (.keep [6,22,23,24] [6,40] b37k0)))
def b37k1:DCode :=
 (.seq
 (.region [⟨some 47,.movv,[.t 6],none,[]⟩,
 ⟨some 2,.movv,[.t 47],none,[0,0]⟩,
 ⟨some 3,.mov,[.c (.int .i64 0)],none,[1,0,1]⟩] false)
 .ret)
def b37k2:DCode :=
 (.seq
 (.seq
 (.region [⟨some 42,.movv,[.t 6],none,[]⟩,
 ⟨some 43,.call,[.f 120,.t 42],none,[0]⟩,
 ⟨some 9,.mov,[.t 43],none,[1,1,0,1]⟩] false)
 (.seq
 (.region [⟨some 44,.mov,[.t 9],none,[]⟩,
 ⟨some 45,(.bin .neq),[.t 44,.c (.int .i64 0)],none,[0]⟩] false)
 (.cond (.t 45)
 (.seq
 (.region [⟨some 46,.mov,[.t 9],none,[]⟩,
 ⟨some 2,.mov,[.c (.slc 3 [])],none,[]⟩,
 ⟨some 3,.mov,[.t 46],none,[0,1,0,1]⟩] false)
 .ret)
 .skip)))
 (.keep [6] [6,40] b37k1))
def b37k3:DCode :=
 (.seq
 (.region [⟨some 6,(.ntok 3),[.c (.slc 3 [])],none,[]⟩] false)
 (.seq
 (.seq
 (.region [⟨some 22,.movv,[.t 4],none,[]⟩,
 ⟨some 23,.len,[.t 22],none,[0]⟩,
 ⟨some 24,.mov,[.c (.int .i64 0)],none,[]⟩] false)
 (.block 0
 (.loop b37l0)))
 (.keep [6] [6,40] b37k2)))
def b37k4:DCode :=
 (.seq
 (.region [⟨some 16,.mov,[.t 0],none,[]⟩,
 ⟨some 17,.call,[.f 117,.t 16,.c (.int .i64 3),.c (.int .i64 8),.c (.int .i64 2)],none,[0]⟩,
 ⟨some 15,.mov,[.t 17],none,[1]⟩,
 ⟨some 18,(.ext 0),[.t 15],none,[2]⟩,
 ⟨some 19,(.ext 1),[.t 15],none,[2]⟩,
 ⟨some 4,.movv,[.t 18],none,[3,1,0,1,2,3]⟩,
 ⟨some 5,.mov,[.t 19],none,[4,5,0,1,2,3,4,5]⟩] false)
 (.seq
 (.seq
 (.region [⟨some 20,.mov,[.t 5],none,[]⟩,
 ⟨some 21,(.un .not),[.t 20],none,[0]⟩] false)
 (.cond (.t 21)
 (.seq
 (.region [⟨some 2,.mov,[.c (.slc 3 [])],none,[]⟩,
 ⟨some 3,.mov,[.c (.int .i64 7)],none,[0,0]⟩] false)
 .ret)
 .skip))
 (.keep [4] [] b37k3)))
def b37k5:DCode :=
 (.seq
 (.seq
 (.region [⟨some 13,.mov,[.t 0],none,[]⟩,
 ⟨some 14,(.bin .eql),[.t 13,.c (.str ⟨#[]⟩)],none,[0]⟩] false)
 (.cond (.t 14)
 (.seq
 (.region [⟨some 2,.mov,[.c (.slc 3 [])],none,[]⟩,
 ⟨some 3,.mov,[.c (.int .i64 0)],none,[0,0]⟩] false)
 .ret)
 .skip))
 (.keep [0] [] b37k4))
def b37:DCode :=
 (.seq
 (.region [⟨some 2,.mov,[.c (.slc 3 [])],none,[]⟩,
 ⟨some 3,.mov,[.c (.int .i64 0)],none,[0]⟩] false)
 (.seq
 (.seq
 (.region [⟨some 10,.mov,[.t 0],none,[]⟩,
 ⟨some 11,.slen,[.t 10],none,[0]⟩,
 ⟨some 12,(.bin .gtr),[.t 11,.c (.int .i64 60000)],none,[1]⟩] false)
 (.cond (.t 12)
 (.seq
 (.region [⟨some 2,.mov,[.c (.slc 3 [])],none,[]⟩,
 ⟨some 3,.mov,[.c (.int .i64 8)],none,[0,0]⟩] false)
 .ret)
 .skip))
 (.keep [0] [] b37k5)))
def d37:DFn:=⟨1,48,[.tmp 2,.tmp 3],b37⟩
theorem body37:d37.body=b37:=rfl
theorem res37:d37.res=[.tmp 2,.tmp 3]:=rfl
theorem k37:chkFn Tryz.prog Tryz.f37 d37=true:=by kernel_rfl
def b32k0:DCode :=
 (.region [⟨some 18,.mov,[.t 5],none,[]⟩,
 ⟨some 19,(.bin .add),[.t 18,.c (.int .i64 1)],none,[0]⟩,
 ⟨some 5,.mov,[.t 19],none,[1,0,1]⟩] false)
def b32k1:DCode :=
 (.seq
 (.block 1
 (.seq
 (.region [⟨some 20,(.faddr 0 false 1),[.t 2],none,[]⟩,
 ⟨some 21,(.load false 1),[.t 20],none,[0]⟩,
 ⟨some 22,.mov,[.t 5],none,[]⟩,
 ⟨some 23,(.iaddr 2),[.t 21,.t 22],none,[1,2]⟩,
 ⟨some 24,(.load true 2),[.t 23],none,[3]⟩,
 ⟨some 25,(.faddr 0 false 1),[.t 3],none,[]⟩,
 ⟨some 26,(.load false 1),[.t 25],none,[5]⟩,
 ⟨some 27,.mov,[.t 5],none,[]⟩,
 ⟨some 28,(.iaddr 2),[.t 26,.t 27],none,[6,7]⟩,
 ⟨some 29,(.load true 2),[.t 28],none,[8]⟩,
 ⟨some 30,(.eqs [false,false] true),[.t 24,.t 29],none,[4,9]⟩] true)
 (.cond (.t 30)
 (.seq
 (.region [⟨some 4,.mov,[.c (.bool false)],none,[]⟩] false)
 .ret)
 .skip)))
 (.keep [2,3,5] [2,3] b32k0))
def b32l0:DCode:=.keep [2,3,5] [2,3]
 (.seq
 (.seq
 (.region [⟨some 13,.mov,[.t 5],none,[]⟩,
 ⟨some 14,(.faddr 0 false 1),[.t 2],none,[]⟩,
 ⟨some 15,(.load false 1),[.t 14],none,[1]⟩,
 ⟨some 16,.len,[.t 15],none,[2]⟩,
 ⟨some 17,(.bin .lss),[.t 13,.t 16],none,[0,3]⟩] false)
 (.cond (.t 17)
 .skip
 (.exit 0)))
 (.keep [2,3,5] [2,3] b32k1))
def b32k2:DCode :=
 (.seq
 (.region [⟨some 4,.mov,[.c (.bool true)],none,[]⟩] false)
 .ret)
def b32k3:DCode :=
 (.seq
 (.seq
 (.region [⟨some 5,.mov,[.c (.int .i64 0)],none,[]⟩] false)
 (.block 0
 (.loop b32l0)))
 (.keep [] [] b32k2))
def b32:DCode :=
 (.seq
 (.region [⟨some 2,.box,[.t 0],none,[]⟩,
 ⟨some 3,.box,[.t 1],none,[]⟩,
 ⟨some 4,.mov,[.c (.bool false)],none,[]⟩] false)
 (.seq
 (.seq
 (.region [⟨some 6,(.faddr 0 false 1),[.t 2],none,[]⟩,
 ⟨some 7,(.load false 1),[.t 6],none,[0]⟩,
 ⟨some 8,.len,[.t 7],none,[1]⟩,
 ⟨some 9,(.faddr 0 false 1),[.t 3],none,[]⟩,
 ⟨some 10,(.load false 1),[.t 9],none,[3]⟩,
 ⟨some 11,.len,[.t 10],none,[4]⟩,
 ⟨some 12,(.bin .neq),[.t 8,.t 11],none,[2,5]⟩] false)
 (.cond (.t 12)
 (.seq
 (.region [⟨some 4,.mov,[.c (.bool false)],none,[]⟩] false)
 .ret)
 .skip))
 (.keep [2,3] [2,3] b32k3)))
def d32:DFn:=⟨2,31,[.tmp 4],b32⟩
theorem body32:d32.body=b32:=rfl
theorem res32:d32.res=[.tmp 4]:=rfl
theorem k32:chkFn Tryz.prog Tryz.f32 d32=true:=by kernel_rfl
def b40k0:DCode :=
 (.region [⟨some 15,.mov,[.t 5],none,[]⟩,
 ⟨some 16,(.bin .add),[.t 15,.c (.int .i64 1)],none,[0]⟩,
 ⟨some 5,.mov,[.t 16],none,[1,0,1]⟩] false)
def b40k1:DCode :=
 (.seq
 (.block 1
 (.seq
 (.region [⟨some 17,.movv,[.t 0],none,[]⟩,
 ⟨some 18,.mov,[.t 5],none,[]⟩,
 ⟨some 19,(.iaddr 3),[.t 17,.t 18],none,[0,1]⟩,
 ⟨some 20,(.load true 3),[.t 19],none,[2]⟩,
 ⟨some 21,.movv,[.t 1],none,[]⟩,
 ⟨some 22,.mov,[.t 5],none,[]⟩,
 ⟨some 23,(.iaddr 3),[.t 21,.t 22],none,[4,5]⟩,
 ⟨some 24,(.load true 3),[.t 23],none,[6]⟩,
 ⟨some 25,(.eqs [false,false,false] true),[.t 20,.t 24],none,[3,7]⟩] true)
 (.cond (.t 25)
 (.seq
 (.region [⟨some 4,.mov,[.c (.bool false)],none,[]⟩] false)
 .ret)
 .skip)))
 (.keep [0,1,5] [] b40k0))
def b40l0:DCode:=.keep [0,1,5] []
 (.seq
 (.seq
 (.region [⟨some 11,.mov,[.t 5],none,[]⟩,
 ⟨some 12,.movv,[.t 0],none,[]⟩,
 ⟨some 13,.len,[.t 12],none,[1]⟩,
 ⟨some 14,(.bin .lss),[.t 11,.t 13],none,[0,2]⟩] false)
 (.cond (.t 14)
 .skip
 (.exit 0)))
 (.keep [0,1,5] [] b40k1))
def b40k2:DCode :=
 (.seq
 (.region [⟨some 4,.mov,[.c (.bool true)],none,[]⟩] false)
 .ret)
def b40k3:DCode :=
 (.seq
 (.seq
 (.region [⟨some 5,.mov,[.c (.int .i64 0)],none,[]⟩] false)
 (.block 0
 (.loop b40l0)))
 (.keep [] [] b40k2))
def b40:DCode :=
 (.seq
 (.region [⟨some 4,.mov,[.c (.bool false)],none,[]⟩] false)
 (.seq
 (.seq
 (.region [⟨some 6,.movv,[.t 0],none,[]⟩,
 ⟨some 7,.len,[.t 6],none,[0]⟩,
 ⟨some 8,.movv,[.t 1],none,[]⟩,
 ⟨some 9,.len,[.t 8],none,[2]⟩,
 ⟨some 10,(.bin .neq),[.t 7,.t 9],none,[1,3]⟩] false)
 (.cond (.t 10)
 (.seq
 (.region [⟨some 4,.mov,[.c (.bool false)],none,[]⟩] false)
 .ret)
 .skip))
 (.keep [0,1] [] b40k3)))
def d40:DFn:=⟨2,26,[.tmp 4],b40⟩
theorem body40:d40.body=b40:=rfl
theorem res40:d40.res=[.tmp 4]:=rfl
theorem k40:chkFn Tryz.prog Tryz.f40 d40=true:=by kernel_rfl
def b5k0:DCode :=
 (.seq
 (.region [⟨some 64,.mov,[.t 5],none,[]⟩,
 ⟨some 65,.call,[.f 29,.t 64],none,[0]⟩,
 ⟨some 63,.mov,[.t 65],none,[1]⟩,
 ⟨some 66,(.ext 0),[.t 63],none,[2]⟩,
 ⟨some 67,(.ext 1),[.t 63],none,[2]⟩,
 ⟨some 10,(.alloc [(.imm (.slc 2 []))]),[],none,[]⟩,
 ⟨none,(.store 1),[.t 10,.t 66],none,[5,3,1,0,1,2,3,5]⟩,
 ⟨some 11,.mov,[.t 67],none,[4,6,0,1,2,3,4,5,6]⟩] false)
 (.seq
 (.region [⟨some 68,.mov,[.t 11],none,[]⟩,
 ⟨some 69,(.bin .eql),[.t 68,.c (.int .i64 0)],none,[0]⟩,
 ⟨some 70,.mov,[.t 69],none,[1]⟩,
 ⟨some 71,(.load true 1),[.t 10],(some (70,true)),[2]⟩,
 ⟨some 72,(.load true 1),[.t 2],(some (70,true)),[2]⟩,
 ⟨some 73,.call,[.f 32,.t 71,.t 72],(some (70,true)),[3,4,2,2]⟩,
 ⟨some 74,.pick,[.t 70,.t 73,.c (.bool false)],none,[2,5]⟩,
 ⟨some 4,.mov,[.t 74],none,[6,5,0,1,2,3,4,5,6]⟩] false)
 .ret))
def b5k1:DCode :=
 (.seq
 (.seq
 (.region [⟨some 60,(.load true 1),[.t 2],none,[]⟩,
 ⟨some 61,.call,[.f 33,.t 60],none,[0]⟩,
 ⟨some 62,(.bin .neq),[.t 61,.c (.int .i64 0)],none,[1]⟩] false)
 (.cond (.t 62)
 (.seq
 (.region [⟨some 4,.mov,[.c (.bool true)],none,[]⟩] false)
 .ret)
 .skip))
 (.keep [2,5] [2] b5k0))
def b5k2:DCode :=
 (.seq
 (.region [⟨some 32,(.load true 1),[.t 2],none,[]⟩,
 ⟨some 33,.call,[.f 28,.t 32],none,[0]⟩,
 ⟨some 34,.call,[.f 27,.t 33],none,[1,1]⟩,
 ⟨some 5,.mov,[.t 34],none,[2,2,0,1,2]⟩] false)
 (.seq
 (.region [⟨some 36,.mov,[.t 1],none,[]⟩,
 ⟨some 37,.call,[.f 29,.t 36],none,[0]⟩,
 ⟨some 35,.mov,[.t 37],none,[1]⟩,
 ⟨some 38,(.ext 0),[.t 35],none,[2]⟩,
 ⟨some 39,(.ext 1),[.t 35],none,[2]⟩,
 ⟨some 6,(.alloc [(.imm (.slc 2 []))]),[],none,[]⟩,
 ⟨none,(.store 1),[.t 6,.t 38],none,[5,3,1,0,1,2,3,5]⟩,
 ⟨some 7,.mov,[.t 39],none,[4,6,0,1,2,3,4,5,6]⟩] false)
 (.seq
 (.region [⟨some 41,.mov,[.t 1],none,[]⟩,
 ⟨some 42,.call,[.f 30,.t 41],none,[0]⟩,
 ⟨some 40,.mov,[.t 42],none,[1]⟩,
 ⟨some 43,(.ext 0),[.t 40],none,[2]⟩,
 ⟨some 44,(.ext 1),[.t 40],none,[2]⟩,
 ⟨some 8,(.alloc [(.imm (.slc 2 []))]),[],none,[]⟩,
 ⟨none,(.store 1),[.t 8,.t 43],none,[5,3,1,0,1,2,3,5]⟩,
 ⟨some 9,.mov,[.t 44],none,[4,6,0,1,2,3,4,5,6]⟩] false)
 (.seq
 (.seq
 (.region [⟨some 45,.mov,[.t 5],none,[]⟩,
 ⟨some 46,(.load true 1),[.t 2],none,[]⟩,
 ⟨some 47,.call,[.f 31,.t 46],none,[1]⟩,
 ⟨some 48,(.bin .neq),[.t 45,.t 47],none,[0,2]⟩,
 ⟨some 49,.mov,[.t 48],none,[3,2]⟩,
 ⟨some 50,.mov,[.t 7],(some (49,false)),[4]⟩,
 ⟨some 51,.mov,[.t 9],(some (49,false)),[4]⟩,
 ⟨some 52,(.bin .neq),[.t 50,.t 51],(some (49,false)),[5,6,4]⟩,
 ⟨some 53,.pick,[.t 49,.c (.bool true),.t 52],none,[4,7]⟩,
 ⟨some 54,.mov,[.t 53],none,[8,4]⟩,
 ⟨some 55,(.load true 1),[.t 6],(some (54,false)),[9]⟩,
 ⟨some 56,(.load true 1),[.t 8],(some (54,false)),[9]⟩,
 ⟨some 57,.call,[.f 32,.t 55,.t 56],(some (54,false)),[10,11,9,9]⟩,
 ⟨some 58,(.un .not),[.t 57],(some (54,false)),[12,9]⟩,
 ⟨some 59,.pick,[.t 54,.c (.bool true),.t 58],none,[9,13]⟩] false)
 (.cond (.t 59)
 (.seq
 (.region [⟨some 4,.mov,[.c (.bool false)],none,[]⟩] false)
 .ret)
 .skip))
 (.keep [2,5] [2] b5k1)))))
def b5k3:DCode :=
 (.seq
 (.seq
 (.region [⟨some 14,(.load true 1),[.t 2],none,[]⟩,
 ⟨some 15,.call,[.f 26,.t 14],none,[0]⟩,
 ⟨some 16,(.un .not),[.t 15],none,[1]⟩,
 ⟨some 17,.mov,[.t 16],none,[2,1]⟩,
 ⟨some 18,.mov,[.t 1],(some (17,false)),[3]⟩,
 ⟨some 19,.slen,[.t 18],(some (17,false)),[4,3]⟩,
 ⟨some 20,(.bin .gtr),[.t 19,.c (.int .i64 300)],(some (17,false)),[5,3]⟩,
 ⟨some 21,.mov,[.t 20],(some (17,false)),[6,3,3]⟩,
 ⟨some 22,.mov,[.t 1],(some (21,true)),[7]⟩,
 ⟨some 23,.slen,[.t 22],(some (21,true)),[8,7]⟩,
 ⟨some 24,(.bin .leq),[.t 23,.c (.int .i64 60000)],(some (21,true)),[9,7]⟩,
 ⟨some 25,.pick,[.t 21,.t 24,.c (.bool false)],(some (17,false)),[7,10,3]⟩,
 ⟨some 26,.pick,[.t 17,.c (.bool true),.t 25],none,[3,11]⟩,
 ⟨some 27,.mov,[.t 26],none,[12,7]⟩,
 ⟨some 28,.mov,[.t 1],(some (27,false)),[13]⟩,
 ⟨some 29,.slen,[.t 28],(some (27,false)),[14,13]⟩,
 ⟨some 30,(.bin .gtr),[.t 29,.c (.int .i64 60010)],(some (27,false)),[15,13]⟩,
 ⟨some 31,.pick,[.t 27,.c (.bool true),.t 30],none,[13,16]⟩] false)
 (.cond (.t 31)
 (.seq
 (.region [⟨some 4,.mov,[.c (.bool true)],none,[]⟩] false)
 .ret)
 .skip))
 (.keep [1,2] [2] b5k2))
def b5:DCode :=
 (.seq
 (.region [⟨some 2,.box,[.t 0],none,[]⟩,
 ⟨some 4,.mov,[.c (.bool false)],none,[]⟩] false)
 (.seq
 (.seq
 (.region [⟨some 12,.call,[.f 25],none,[]⟩,
 ⟨some 13,(.un .not),[.t 12],none,[0]⟩] false)
 (.cond (.t 13)
 (.seq
 (.region [⟨some 4,.mov,[.c (.bool false)],none,[]⟩] false)
 .ret)
 .skip))
 (.keep [1,2] [2] b5k3)))
def d5:DFn:=⟨2,75,[.tmp 4],b5⟩
theorem k5:chkFn Tryz.prog Tryz.f5 d5=true:=by kernel_rfl
def b6k0:DCode :=
 (.seq
 (.region [⟨some 65,.mov,[.t 5],none,[]⟩,
 ⟨some 66,.call,[.f 37,.t 65],none,[0]⟩,
 ⟨some 64,.mov,[.t 66],none,[1]⟩,
 ⟨some 67,(.ext 0),[.t 64],none,[2]⟩,
 ⟨some 68,(.ext 1),[.t 64],none,[2]⟩,
 ⟨some 10,.movv,[.t 67],none,[3,1,0,1,2,3]⟩,
 ⟨some 11,.mov,[.t 68],none,[4,5,0,1,2,3,4,5]⟩] false)
 (.seq
 (.region [⟨some 69,.mov,[.t 11],none,[]⟩,
 ⟨some 70,(.bin .eql),[.t 69,.c (.int .i64 0)],none,[0]⟩,
 ⟨some 71,.mov,[.t 70],none,[1]⟩,
 ⟨some 72,.movv,[.t 10],(some (71,true)),[2]⟩,
 ⟨some 73,.movv,[.t 0],(some (71,true)),[2]⟩,
 ⟨some 74,.call,[.f 40,.t 72,.t 73],(some (71,true)),[3,4,2,2]⟩,
 ⟨some 75,.pick,[.t 71,.t 74,.c (.bool false)],none,[2,5]⟩,
 ⟨some 4,.mov,[.t 75],none,[6,5,0,1,2,3,4,5,6]⟩] false)
 .ret))
def b6k1:DCode :=
 (.seq
 (.seq
 (.region [⟨some 61,.movv,[.t 0],none,[]⟩,
 ⟨some 62,.call,[.f 41,.t 61],none,[0]⟩,
 ⟨some 63,(.bin .neq),[.t 62,.c (.int .i64 0)],none,[1]⟩] false)
 (.cond (.t 63)
 (.seq
 (.region [⟨some 4,.mov,[.c (.bool true)],none,[]⟩] false)
 .ret)
 .skip))
 (.keep [0,5] [] b6k0))
def b6k2:DCode :=
 (.seq
 (.region [⟨some 33,.movv,[.t 0],none,[]⟩,
 ⟨some 34,.call,[.f 36,.t 33],none,[0]⟩,
 ⟨some 35,.call,[.f 35,.t 34],none,[1,1]⟩,
 ⟨some 5,.mov,[.t 35],none,[2,2,0,1,2]⟩] false)
 (.seq
 (.region [⟨some 37,.mov,[.t 1],none,[]⟩,
 ⟨some 38,.call,[.f 37,.t 37],none,[0]⟩,
 ⟨some 36,.mov,[.t 38],none,[1]⟩,
 ⟨some 39,(.ext 0),[.t 36],none,[2]⟩,
 ⟨some 40,(.ext 1),[.t 36],none,[2]⟩,
 ⟨some 6,.movv,[.t 39],none,[3,1,0,1,2,3]⟩,
 ⟨some 7,.mov,[.t 40],none,[4,5,0,1,2,3,4,5]⟩] false)
 (.seq
 (.region [⟨some 42,.mov,[.t 1],none,[]⟩,
 ⟨some 43,.call,[.f 38,.t 42],none,[0]⟩,
 ⟨some 41,.mov,[.t 43],none,[1]⟩,
 ⟨some 44,(.ext 0),[.t 41],none,[2]⟩,
 ⟨some 45,(.ext 1),[.t 41],none,[2]⟩,
 ⟨some 8,.movv,[.t 44],none,[3,1,0,1,2,3]⟩,
 ⟨some 9,.mov,[.t 45],none,[4,5,0,1,2,3,4,5]⟩] false)
 (.seq
 (.seq
 (.region [⟨some 46,.mov,[.t 5],none,[]⟩,
 ⟨some 47,.movv,[.t 0],none,[]⟩,
 ⟨some 48,.call,[.f 39,.t 47],none,[1]⟩,
 ⟨some 49,(.bin .neq),[.t 46,.t 48],none,[0,2]⟩,
 ⟨some 50,.mov,[.t 49],none,[3,2]⟩,
 ⟨some 51,.mov,[.t 7],(some (50,false)),[4]⟩,
 ⟨some 52,.mov,[.t 9],(some (50,false)),[4]⟩,
 ⟨some 53,(.bin .neq),[.t 51,.t 52],(some (50,false)),[5,6,4]⟩,
 ⟨some 54,.pick,[.t 50,.c (.bool true),.t 53],none,[4,7]⟩,
 ⟨some 55,.mov,[.t 54],none,[8,4]⟩,
 ⟨some 56,.movv,[.t 6],(some (55,false)),[9]⟩,
 ⟨some 57,.movv,[.t 8],(some (55,false)),[9]⟩,
 ⟨some 58,.call,[.f 40,.t 56,.t 57],(some (55,false)),[10,11,9,9]⟩,
 ⟨some 59,(.un .not),[.t 58],(some (55,false)),[12,9]⟩,
 ⟨some 60,.pick,[.t 55,.c (.bool true),.t 59],none,[9,13]⟩] false)
 (.cond (.t 60)
 (.seq
 (.region [⟨some 4,.mov,[.c (.bool false)],none,[]⟩] false)
 .ret)
 .skip))
 (.keep [0,5] [] b6k1)))))
def b6k3:DCode :=
 (.seq
 (.seq
 (.region [⟨some 14,.movv,[.t 0],none,[]⟩,
 ⟨some 15,.len,[.t 14],none,[0]⟩,
 ⟨some 16,.call,[.f 34,.t 15],none,[1]⟩,
 ⟨some 17,(.un .not),[.t 16],none,[2]⟩,
 ⟨some 18,.mov,[.t 17],none,[3,2]⟩,
 ⟨some 19,.mov,[.t 1],(some (18,false)),[4]⟩,
 ⟨some 20,.slen,[.t 19],(some (18,false)),[5,4]⟩,
 ⟨some 21,(.bin .gtr),[.t 20,.c (.int .i64 300)],(some (18,false)),[6,4]⟩,
 ⟨some 22,.mov,[.t 21],(some (18,false)),[7,4,4]⟩,
 ⟨some 23,.mov,[.t 1],(some (22,true)),[8]⟩,
 ⟨some 24,.slen,[.t 23],(some (22,true)),[9,8]⟩,
 ⟨some 25,(.bin .leq),[.t 24,.c (.int .i64 60000)],(some (22,true)),[10,8]⟩,
 ⟨some 26,.pick,[.t 22,.t 25,.c (.bool false)],(some (18,false)),[8,11,4]⟩,
 ⟨some 27,.pick,[.t 18,.c (.bool true),.t 26],none,[4,12]⟩,
 ⟨some 28,.mov,[.t 27],none,[13,8]⟩,
 ⟨some 29,.mov,[.t 1],(some (28,false)),[14]⟩,
 ⟨some 30,.slen,[.t 29],(some (28,false)),[15,14]⟩,
 ⟨some 31,(.bin .gtr),[.t 30,.c (.int .i64 60010)],(some (28,false)),[16,14]⟩,
 ⟨some 32,.pick,[.t 28,.c (.bool true),.t 31],none,[14,17]⟩] false)
 (.cond (.t 32)
 (.seq
 (.region [⟨some 4,.mov,[.c (.bool true)],none,[]⟩] false)
 .ret)
 .skip))
 (.keep [0,1] [] b6k2))
def b6:DCode :=
 (.seq
 (.region [⟨some 4,.mov,[.c (.bool false)],none,[]⟩] false)
 (.seq
 (.seq
 (.region [⟨some 12,.call,[.f 25],none,[]⟩,
 ⟨some 13,(.un .not),[.t 12],none,[0]⟩] false)
 (.cond (.t 13)
 (.seq
 (.region [⟨some 4,.mov,[.c (.bool false)],none,[]⟩] false)
 .ret)
 .skip))
 (.keep [0,1] [] b6k3)))
def d6:DFn:=⟨2,76,[.tmp 4],b6⟩
theorem k6:chkFn Tryz.prog Tryz.f6 d6=true:=by kernel_rfl
end Go.DI


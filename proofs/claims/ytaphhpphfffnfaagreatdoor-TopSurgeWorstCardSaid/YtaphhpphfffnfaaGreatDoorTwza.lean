/- The functions of TopSurgeWorst, as data. No condition. -/
import Derived.Test.YtaphhpphfffnfaaGreatDoorTwGe
import Derived.Test.YtaphhpphfffnfaaGreatDoorProg
import Derived.KernelRfl
namespace Go.DI
open Go.Proofs Go.RowKit
def b77k0:DCode :=
 (.seq
 (.region [⟨some 13,.mov,[.t 0],none,[]⟩,
 ⟨some 4,.mov,[.t 13],none,[0,0]⟩] false)
 .ret)
def b77:DCode :=
 (.seq
 (.region [⟨some 4,.mov,[.c (.int .i64 0)],none,[]⟩] false)
 (.seq
 (.region [⟨some 5,.mov,[.t 0],none,[]⟩,
 ⟨some 6,.mov,[.t 1],none,[]⟩,
 ⟨some 7,(.bin .rem),[.t 5,.t 6],none,[0,1]⟩,
 ⟨some 0,.mov,[.t 7],none,[2,0,1,2]⟩] false)
 (.seq
 (.seq
 (.region [⟨some 8,.mov,[.t 0],none,[]⟩,
 ⟨some 9,(.bin .lss),[.t 8,.c (.int .i64 0)],none,[0]⟩] false)
 (.cond (.t 9)
 (.region [⟨some 10,.mov,[.t 0],none,[]⟩,
 ⟨some 11,.mov,[.t 1],none,[]⟩,
 ⟨some 12,(.bin .add),[.t 10,.t 11],none,[0,1]⟩,
 ⟨some 0,.mov,[.t 12],none,[2,0,1,2]⟩] false)
 .skip))
 (.keep [0] [] b77k0))))
def d77:DFn:=⟨2,14,[.tmp 4],b77⟩
theorem body77:d77.body=b77:=rfl
theorem res77:d77.res=[.tmp 4]:=rfl
theorem k77:chkFn Tryz.prog Tryz.f77 d77=true:=by kernel_rfl
def b67:DCode :=
 (.seq
 (.region [⟨some 0,.mov,[.c (.bool false)],none,[]⟩] false)
 (.seq
 (.region [⟨some 6,.call,[.f 105],none,[]⟩,
 ⟨some 7,(.build [(.imm (.int .i64 0)),(.imm (.int .i64 0))] [(1,1)]),[.c (.int .i64 100)],none,[]⟩,
 ⟨some 8,(.build [(.imm (.int .i64 0)),(.imm (.int .i64 0))] [(1,1)]),[.c (.int .i64 2)],none,[]⟩,
 ⟨some 9,.call,[.f 81,.t 6,.t 7,.t 8],none,[0,1,2,0]⟩,
 ⟨some 5,.mov,[.t 9],none,[3]⟩,
 ⟨some 10,(.ext 0),[.t 5],none,[4]⟩,
 ⟨some 11,(.ext 1),[.t 5],none,[4]⟩,
 ⟨some 1,(.alloc [(.imm (.int .i64 0)),(.imm (.int .i64 0))]),[],none,[]⟩,
 ⟨none,(.store 2),[.t 1,.t 10],none,[7,5,3,0,1,2,3,4,5,7]⟩,
 ⟨some 2,.mov,[.t 11],none,[6,8,0,1,2,3,4,5,6,7,8]⟩] false)
 (.seq
 (.region [⟨some 13,.call,[.f 105],none,[]⟩,
 ⟨some 14,.call,[.f 108],none,[0]⟩,
 ⟨some 15,(.build [(.imm (.int .i64 0)),(.imm (.int .i64 0))] [(0,1),(1,1)]),[.c (.int .i64 100),.c (.int .i64 100)],none,[]⟩,
 ⟨some 16,(.build [(.imm (.int .i64 0)),(.imm (.int .i64 0)),(.imm (.int .i64 0)),(.imm (.int .i64 0))] [(2,2)]),[.t 15],none,[2]⟩,
 ⟨some 17,(.bsl 4),[.t 16],none,[3]⟩,
 ⟨some 18,.call,[.f 75,.t 13,.t 14,.t 17],none,[0,1,4,1]⟩,
 ⟨some 12,.mov,[.t 18],none,[5]⟩,
 ⟨some 19,(.ext 0),[.t 12],none,[6]⟩,
 ⟨some 20,(.ext 1),[.t 12],none,[6]⟩,
 ⟨some 3,(.alloc [(.imm (.int .i64 0)),(.imm (.int .i64 0))]),[],none,[]⟩,
 ⟨none,(.store 2),[.t 3,.t 19],none,[9,7,5,0,1,2,3,4,5,6,7,9]⟩,
 ⟨some 4,.mov,[.t 20],none,[8,10,0,1,2,3,4,5,6,7,8,9,10]⟩] false)
 (.seq
 (.region [⟨some 21,.mov,[.t 2],none,[]⟩,
 ⟨some 22,(.bin .eql),[.t 21,.c (.int .i64 0)],none,[0]⟩,
 ⟨some 23,.mov,[.t 22],none,[1]⟩,
 ⟨some 24,(.load true 2),[.t 1],(some (23,true)),[2]⟩,
 ⟨some 25,(.build [(.imm (.int .i64 0)),(.imm (.int .i64 0))] [(0,1),(1,1)]),[.c (.int .i64 19),.c (.int .i64 98)],(some (23,true)),[2]⟩,
 ⟨some 26,(.eqs [false,false] false),[.t 24,.t 25],(some (23,true)),[3,4,2]⟩,
 ⟨some 27,.pick,[.t 23,.t 26,.c (.bool false)],none,[2,5]⟩,
 ⟨some 28,.mov,[.t 27],none,[6,2]⟩,
 ⟨some 29,.mov,[.t 4],(some (28,true)),[7]⟩,
 ⟨some 30,(.bin .eql),[.t 29,.c (.int .i64 0)],(some (28,true)),[8,7]⟩,
 ⟨some 31,.pick,[.t 28,.t 30,.c (.bool false)],none,[7,9]⟩,
 ⟨some 32,.mov,[.t 31],none,[10,7]⟩,
 ⟨some 33,(.load true 2),[.t 3],(some (32,true)),[11]⟩,
 ⟨some 34,(.build [(.imm (.int .i64 0)),(.imm (.int .i64 0))] [(0,1),(1,1)]),[.c (.int .i64 19),.c (.int .i64 58)],(some (32,true)),[11]⟩,
 ⟨some 35,(.eqs [false,false] false),[.t 33,.t 34],(some (32,true)),[12,13,11]⟩,
 ⟨some 36,.pick,[.t 32,.t 35,.c (.bool false)],none,[11,14]⟩,
 ⟨some 0,.mov,[.t 36],none,[15,11,0,1,2,3,4,5,6,7,8,9,10,11,12,13,14,15]⟩] false)
 .ret))))
def d67:DFn:=⟨0,37,[.tmp 0],b67⟩
theorem body67:d67.body=b67:=rfl
theorem res67:d67.res=[.tmp 0]:=rfl
theorem k67:chkFn Tryz.prog Tryz.f67 d67=true:=by kernel_rfl
def b87k0:DCode :=
 (.region [⟨some 67,.mov,[.t 16],none,[]⟩,
 ⟨some 68,(.bin .add),[.t 67,.c (.int .i64 1)],none,[0]⟩,
 ⟨some 16,.mov,[.t 68],none,[1,0,1]⟩] false)
def b87k1:DCode :=
 (.seq
 (.block 3
 (.seq
 (.region [⟨some 69,.movv,[.t 14],none,[]⟩,
 ⟨some 70,.mov,[.t 16],none,[]⟩,
 ⟨some 71,(.iaddr 2),[.t 69,.t 70],none,[0,1]⟩,
 ⟨some 72,(.faddr 0 false 1),[.t 71],none,[2]⟩,
 ⟨some 73,(.load false 1),[.t 72],none,[3]⟩,
 ⟨some 74,(.faddr 5 true 2),[.t 6],none,[]⟩,
 ⟨some 75,(.faddr 0 false 1),[.t 74],none,[5]⟩,
 ⟨some 76,(.load false 1),[.t 75],none,[6]⟩,
 ⟨some 77,(.faddr 5 true 2),[.t 6],none,[]⟩,
 ⟨some 78,(.faddr 1 false 1),[.t 77],none,[8]⟩,
 ⟨some 79,(.load false 1),[.t 78],none,[9]⟩,
 ⟨some 80,.call,[.f 47,.t 73,.t 76,.t 79],none,[4,7,10]⟩,
 ⟨some 81,(.un .not),[.t 80],none,[11]⟩] true)
 (.cond (.t 81)
 (.seq
 (.region [⟨some 8,.mov,[.c (.bool false)],none,[]⟩] false)
 .ret)
 .skip)))
 (.keep [4,6,7,11,12,13,14,16] [4,6,7,11] b87k0))
def b87l0:DCode:=.keep [4,6,7,11,12,13,14,16] [4,6,7,11]
 (.seq
 (.seq
 (.region [⟨some 63,.mov,[.t 16],none,[]⟩,
 ⟨some 64,.movv,[.t 14],none,[]⟩,
 ⟨some 65,.len,[.t 64],none,[1]⟩,
 ⟨some 66,(.bin .lss),[.t 63,.t 65],none,[0,2]⟩] false)
 (.cond (.t 66)
 .skip
 (.exit 2)))
 (.keep [4,6,7,11,12,13,14,16] [4,6,7,11] b87k1))
def b87k2:DCode :=
 (.seq
 (.region [⟨some 16,.mov,[.c (.int .i64 0)],none,[]⟩] false)
 (.block 2
 (.loop b87l0)))
def b87k3:DCode :=
 (.region [⟨some 43,.mov,[.t 13],none,[]⟩,
 ⟨some 44,(.bin .add),[.t 43,.c (.int .i64 1)],none,[0]⟩,
 ⟨some 13,.mov,[.t 44],none,[1,0,1]⟩] false)
def b87k4:DCode :=
 (.seq
 (.block 1
 (.seq
 (.region [⟨some 46,(.load true 5),[.t 4],none,[]⟩,
 ⟨some 47,(.load true 2),[.t 7],none,[]⟩,
 ⟨some 48,(.load true 4),[.t 11],none,[]⟩,
 ⟨some 49,.movv,[.t 12],none,[]⟩,
 ⟨some 50,.mov,[.t 13],none,[]⟩,
 ⟨some 51,(.iaddr 1),[.t 49,.t 50],none,[3,4]⟩,
 ⟨some 52,(.load false 1),[.t 51],none,[5]⟩,
 ⟨some 53,.call,[.f 184,.t 48,.t 52],none,[2,6]⟩,
 ⟨some 54,(.faddr 2 true 2),[.t 4],none,[]⟩,
 ⟨some 55,(.faddr 1 false 1),[.t 54],none,[8]⟩,
 ⟨some 56,(.load false 1),[.t 55],none,[9]⟩,
 ⟨some 57,(.build [(.imm (.slc 1 [])),(.imm (.int .i64 0))] [(0,1),(1,1)]),[.t 53,.t 56],none,[7,10]⟩,
 ⟨some 58,.call,[.f 86,.t 46,.t 47,.t 57],none,[0,1,11,7]⟩,
 ⟨some 45,.mov,[.t 58],none,[12]⟩,
 ⟨some 59,(.ext 0),[.t 45],none,[13]⟩,
 ⟨some 60,(.ext 1),[.t 45],none,[13]⟩,
 ⟨some 14,.movv,[.t 59],none,[14,12,0,1,2,3,4,5,6,7,8,9,10,11,12,13,14]⟩,
 ⟨some 15,.mov,[.t 60],none,[15,16,0,1,2,3,4,5,6,7,8,9,10,11,12,13,14,15,16]⟩] true)
 (.seq
 (.seq
 (.region [⟨some 61,.mov,[.t 15],none,[]⟩,
 ⟨some 62,(.bin .neq),[.t 61,.c (.int .i64 0)],none,[0]⟩] false)
 (.cond (.t 62)
 (.seq
 (.region [⟨some 8,.mov,[.c (.bool false)],none,[]⟩] false)
 .ret)
 .skip))
 (.keep [4,6,7,11,12,13,14] [4,6,7,11] b87k2))))
 (.keep [4,6,7,11,12,13] [4,6,7,11] b87k3))
def b87l1:DCode:=.keep [4,6,7,11,12,13] [4,6,7,11]
 (.seq
 (.seq
 (.region [⟨some 39,.mov,[.t 13],none,[]⟩,
 ⟨some 40,.movv,[.t 12],none,[]⟩,
 ⟨some 41,.len,[.t 40],none,[1]⟩,
 ⟨some 42,(.bin .lss),[.t 39,.t 41],none,[0,2]⟩] false)
 (.cond (.t 42)
 .skip
 (.exit 0)))
 (.keep [4,6,7,11,12,13] [4,6,7,11] b87k4))
def b87k5:DCode :=
 (.seq
 (.region [⟨some 8,.mov,[.c (.bool true)],none,[]⟩] false)
 .ret)
def b87k6:DCode :=
 (.seq
 (.region [⟨some 37,(.load true 4),[.t 11],none,[]⟩,
 ⟨some 38,.call,[.f 183,.t 37],none,[0]⟩,
 ⟨some 12,.movv,[.t 38],none,[1,1,0,1]⟩] false)
 (.seq
 (.seq
 (.region [⟨some 13,.mov,[.c (.int .i64 0)],none,[]⟩] false)
 (.block 0
 (.loop b87l1)))
 (.keep [] [] b87k5)))
def b87k7:DCode :=
 (.seq
 (.region [⟨some 29,(.load true 4),[.t 5],none,[]⟩,
 ⟨some 30,.call,[.f 73,.t 29],none,[0]⟩,
 ⟨some 11,(.alloc [(.imm (.int .i64 0)),(.imm (.slc 1 [])),(.imm (.int .i64 0)),(.imm (.int .i64 0))]),[],none,[]⟩,
 ⟨none,(.store 4),[.t 11,.t 30],none,[2,1,1,0,1,2]⟩] false)
 (.seq
 (.region [⟨some 31,.mov,[.t 9],none,[]⟩,
 ⟨some 32,(.faddr 2 false 1),[.t 11],none,[0]⟩,
 ⟨none,(.store 1),[.t 32,.t 31],none,[1,0,0]⟩] false)
 (.seq
 (.seq
 (.region [⟨some 33,(.load true 5),[.t 4],none,[]⟩,
 ⟨some 34,(.load true 4),[.t 11],none,[]⟩,
 ⟨some 35,.call,[.f 68,.t 33,.t 34],none,[0,1]⟩,
 ⟨some 36,(.bin .neq),[.t 35,.c (.int .i64 0)],none,[2]⟩] false)
 (.cond (.t 36)
 (.seq
 (.region [⟨some 8,.mov,[.c (.bool false)],none,[]⟩] false)
 .ret)
 .skip))
 (.keep [4,6,7,11] [4,6,7,11] b87k6))))
def b87:DCode :=
 (.seq
 (.region [⟨some 4,.box,[.t 0],none,[]⟩,
 ⟨some 5,.box,[.t 1],none,[]⟩,
 ⟨some 6,.box,[.t 2],none,[]⟩,
 ⟨some 7,.box,[.t 3],none,[]⟩,
 ⟨some 8,.mov,[.c (.bool false)],none,[]⟩] false)
 (.seq
 (.region [⟨some 18,(.load true 5),[.t 4],none,[]⟩,
 ⟨some 19,(.load true 4),[.t 5],none,[]⟩,
 ⟨some 20,.call,[.f 73,.t 19],none,[1]⟩,
 ⟨some 21,(.load true 7),[.t 6],none,[]⟩,
 ⟨some 22,.call,[.f 182,.t 18,.t 20,.t 21],none,[0,2,3,2]⟩,
 ⟨some 17,.mov,[.t 22],none,[4]⟩,
 ⟨some 23,(.ext 0),[.t 17],none,[5]⟩,
 ⟨some 24,(.ext 1),[.t 17],none,[5]⟩,
 ⟨some 9,.mov,[.t 23],none,[6,4,0,1,2,3,4,5,6]⟩,
 ⟨some 10,.mov,[.t 24],none,[7,8,0,1,2,3,4,5,6,7,8]⟩] true)
 (.seq
 (.seq
 (.region [⟨some 25,.mov,[.t 10],none,[]⟩,
 ⟨some 26,(.bin .neq),[.t 25,.c (.int .i64 0)],none,[0]⟩] false)
 (.cond (.t 26)
 (.seq
 (.region [⟨some 27,.mov,[.t 10],none,[]⟩,
 ⟨some 28,(.bin .eql),[.t 27,.c (.int .i64 12)],none,[0]⟩,
 ⟨some 8,.mov,[.t 28],none,[1,0,1]⟩] false)
 .ret)
 .skip))
 (.keep [4,5,6,7,9] [4,5,6,7] b87k7))))
def d87:DFn:=⟨4,82,[.tmp 8],b87⟩
theorem body87:d87.body=b87:=rfl
theorem res87:d87.res=[.tmp 8]:=rfl
theorem k87:chkFn Tryz.prog Tryz.f87 d87=true:=by kernel_rfl
def b9k0:DCode :=
 (.region [⟨some 277,(.load true 2),[.t 23],none,[]⟩,
 ⟨none,(.store 2),[.t 20,.t 277],none,[0,0]⟩] false)
def b9k1:DCode :=
 (.seq
 (.region [⟨some 234,(.faddr 2 true 2),[.t 3],none,[]⟩,
 ⟨some 235,(.faddr 0 false 1),[.t 234],none,[0]⟩,
 ⟨some 236,(.load false 1),[.t 235],none,[1]⟩,
 ⟨some 237,(.faddr 7 false 1),[.t 5],none,[]⟩,
 ⟨some 238,(.load false 1),[.t 237],none,[3]⟩,
 ⟨some 239,.mov,[.t 21],none,[]⟩,
 ⟨some 240,(.bin .add),[.c (.int .i64 2),.t 239],none,[5]⟩,
 ⟨some 241,(.iaddr 1),[.t 238,.t 240],none,[4,6]⟩,
 ⟨some 242,(.load false 1),[.t 241],none,[7]⟩,
 ⟨some 243,(.faddr 2 true 2),[.t 3],none,[]⟩,
 ⟨some 244,(.faddr 1 false 1),[.t 243],none,[9]⟩,
 ⟨some 245,(.load false 1),[.t 244],none,[10]⟩,
 ⟨some 246,(.faddr 2 true 2),[.t 3],none,[]⟩,
 ⟨some 247,(.faddr 0 false 1),[.t 246],none,[12]⟩,
 ⟨some 248,(.load false 1),[.t 247],none,[13]⟩,
 ⟨some 249,(.bin .sub),[.t 245,.t 248],none,[11,14]⟩,
 ⟨some 250,(.bin .add),[.t 249,.c (.int .i64 1)],none,[15]⟩,
 ⟨some 251,.call,[.f 77,.t 242,.t 250],none,[8,16]⟩,
 ⟨some 252,(.bin .add),[.t 236,.t 251],none,[2,17]⟩,
 ⟨some 22,.mov,[.t 252],none,[18,17,0,1,2,3,4,5,6,7,8,9,10,11,12,13,14,15,16,17,18]⟩] true)
 (.seq
 (.region [⟨some 254,(.load true 5),[.t 3],none,[]⟩,
 ⟨some 255,(.load true 2),[.t 20],none,[]⟩,
 ⟨some 256,.movv,[.t 18],none,[]⟩,
 ⟨some 257,.mov,[.t 21],none,[]⟩,
 ⟨some 258,(.iaddr 1),[.t 256,.t 257],none,[2,3]⟩,
 ⟨some 259,(.load false 1),[.t 258],none,[4]⟩,
 ⟨some 260,.mov,[.t 22],none,[]⟩,
 ⟨some 261,(.build [(.imm (.int .i64 0)),(.imm (.int .i64 0))] [(0,1),(1,1)]),[.t 259,.t 260],none,[5,6]⟩,
 ⟨some 262,.call,[.f 81,.t 254,.t 255,.t 261],none,[0,1,7]⟩,
 ⟨some 253,.mov,[.t 262],none,[8]⟩,
 ⟨some 263,(.ext 0),[.t 253],none,[9]⟩,
 ⟨some 264,(.ext 1),[.t 253],none,[9]⟩,
 ⟨some 23,(.alloc [(.imm (.int .i64 0)),(.imm (.int .i64 0))]),[],none,[]⟩,
 ⟨none,(.store 2),[.t 23,.t 263],none,[12,10,8,0,1,2,3,4,5,6,7,8,9,10,12]⟩,
 ⟨some 24,.mov,[.t 264],none,[11,13,0,1,2,3,4,5,6,7,8,9,10,11,12,13]⟩] true)
 (.seq
 (.seq
 (.region [⟨some 265,.mov,[.t 24],none,[]⟩,
 ⟨some 266,(.bin .neq),[.t 265,.c (.int .i64 0)],none,[0]⟩,
 ⟨some 267,.mov,[.t 266],none,[1]⟩,
 ⟨some 268,(.faddr 0 false 1),[.t 23],(some (267,false)),[2]⟩,
 ⟨some 269,(.load false 1),[.t 268],(some (267,false)),[3,2]⟩,
 ⟨some 270,(.faddr 0 false 1),[.t 13],(some (267,false)),[2]⟩,
 ⟨some 271,(.load false 1),[.t 270],(some (267,false)),[5,2]⟩,
 ⟨some 272,(.faddr 1 false 1),[.t 13],(some (267,false)),[2]⟩,
 ⟨some 273,(.load false 1),[.t 272],(some (267,false)),[7,2]⟩,
 ⟨some 274,.call,[.f 47,.t 269,.t 271,.t 273],(some (267,false)),[4,6,8,2,2]⟩,
 ⟨some 275,(.un .not),[.t 274],(some (267,false)),[9,2]⟩,
 ⟨some 276,.pick,[.t 267,.c (.bool true),.t 275],none,[2,10]⟩] false)
 (.cond (.t 276)
 (.seq
 (.region [⟨some 6,.mov,[.c (.bool false)],none,[]⟩] false)
 .ret)
 .skip))
 (.keep [3,4,5,13,15,16,18,20,21,23] [3,4,5,13,15,16,20,23] b9k0))))
def b9k2:DCode :=
 (.region [⟨some 229,.mov,[.t 21],none,[]⟩,
 ⟨some 230,(.bin .add),[.t 229,.c (.int .i64 1)],none,[0]⟩,
 ⟨some 21,.mov,[.t 230],none,[1,0,1]⟩] false)
def b9k3:DCode :=
 (.seq
 (.block 1
 (.seq
 (.seq
 (.region [⟨some 231,(.load true 2),[.t 20],none,[]⟩,
 ⟨some 232,.call,[.f 80,.t 231],none,[0]⟩,
 ⟨some 233,(.bin .neq),[.t 232,.c (.int .i64 0)],none,[1]⟩] false)
 (.cond (.t 233)
 (.seq
 (.region [⟨some 6,.mov,[.c (.bool true)],none,[]⟩] false)
 .ret)
 .skip))
 (.keep [3,4,5,13,15,16,18,20,21] [3,4,5,13,15,16,20] b9k1)))
 (.keep [3,4,5,13,15,16,18,20,21] [3,4,5,13,15,16,20] b9k2))
def b9l0:DCode:=.keep [3,4,5,13,15,16,18,20,21] [3,4,5,13,15,16,20]
 (.seq
 (.seq
 (.region [⟨some 225,.mov,[.t 21],none,[]⟩,
 ⟨some 226,.movv,[.t 18],none,[]⟩,
 ⟨some 227,.len,[.t 226],none,[1]⟩,
 ⟨some 228,(.bin .lss),[.t 225,.t 227],none,[0,2]⟩] false)
 (.cond (.t 228)
 .skip
 (.exit 0)))
 (.keep [3,4,5,13,15,16,18,20,21] [3,4,5,13,15,16,20] b9k3))
def b9k4:DCode :=
 (.region [⟨some 375,.mov,[.t 31],none,[]⟩,
 ⟨some 376,(.bin .add),[.t 375,.c (.int .i64 1)],none,[0]⟩,
 ⟨some 31,.mov,[.t 376],none,[1,0,1]⟩] false)
def b9k5:DCode :=
 (.seq
 (.block 5
 (.seq
 (.region [⟨some 377,.movv,[.t 29],none,[]⟩,
 ⟨some 378,.mov,[.t 31],none,[]⟩,
 ⟨some 379,(.iaddr 2),[.t 377,.t 378],none,[0,1]⟩,
 ⟨some 380,(.faddr 0 false 1),[.t 379],none,[2]⟩,
 ⟨some 381,(.load false 1),[.t 380],none,[3]⟩,
 ⟨some 382,(.faddr 4 false 1),[.t 26],none,[]⟩,
 ⟨some 383,(.load false 1),[.t 382],none,[5]⟩,
 ⟨some 384,(.bin .gtr),[.t 381,.t 383],none,[4,6]⟩] true)
 (.cond (.t 384)
 (.seq
 (.region [⟨some 6,.mov,[.c (.bool false)],none,[]⟩] false)
 .ret)
 .skip)))
 (.keep [3,4,5,16,18,25,26,28,29,31] [3,4,5,16,26] b9k4))
def b9l1:DCode:=.keep [3,4,5,16,18,25,26,28,29,31] [3,4,5,16,26]
 (.seq
 (.seq
 (.region [⟨some 371,.mov,[.t 31],none,[]⟩,
 ⟨some 372,.movv,[.t 29],none,[]⟩,
 ⟨some 373,.len,[.t 372],none,[1]⟩,
 ⟨some 374,(.bin .lss),[.t 371,.t 373],none,[0,2]⟩] false)
 (.cond (.t 374)
 .skip
 (.exit 4)))
 (.keep [3,4,5,16,18,25,26,28,29,31] [3,4,5,16,26] b9k5))
def b9k6:DCode :=
 (.seq
 (.region [⟨some 31,.mov,[.c (.int .i64 0)],none,[]⟩] false)
 (.block 4
 (.loop b9l1)))
def b9k7:DCode :=
 (.region [⟨some 345,.mov,[.t 28],none,[]⟩,
 ⟨some 346,(.bin .add),[.t 345,.c (.int .i64 1)],none,[0]⟩,
 ⟨some 28,.mov,[.t 346],none,[1,0,1]⟩] false)
def b9k8:DCode :=
 (.seq
 (.block 3
 (.seq
 (.region [⟨some 348,(.load true 5),[.t 3],none,[]⟩,
 ⟨some 349,.movv,[.t 25],none,[]⟩,
 ⟨some 350,.mov,[.t 28],none,[]⟩,
 ⟨some 351,(.iaddr 2),[.t 349,.t 350],none,[1,2]⟩,
 ⟨some 352,(.load true 2),[.t 351],none,[3]⟩,
 ⟨some 353,.movv,[.t 18],none,[]⟩,
 ⟨some 354,.call,[.f 52,.t 353],none,[5]⟩,
 ⟨some 355,(.faddr 2 true 2),[.t 3],none,[]⟩,
 ⟨some 356,(.faddr 0 false 1),[.t 355],none,[7]⟩,
 ⟨some 357,(.load false 1),[.t 356],none,[8]⟩,
 ⟨some 358,(.build [(.imm (.slc 1 [])),(.imm (.int .i64 0))] [(0,1),(1,1)]),[.t 354,.t 357],none,[6,9]⟩,
 ⟨some 359,.call,[.f 86,.t 348,.t 352,.t 358],none,[0,4,10,6]⟩,
 ⟨some 347,.mov,[.t 359],none,[11]⟩,
 ⟨some 360,(.ext 0),[.t 347],none,[12]⟩,
 ⟨some 361,(.ext 1),[.t 347],none,[12]⟩,
 ⟨some 29,.movv,[.t 360],none,[13,11,0,1,2,3,4,5,6,7,8,9,10,11,12,13]⟩,
 ⟨some 30,.mov,[.t 361],none,[14,15,0,1,2,3,4,5,6,7,8,9,10,11,12,13,14,15]⟩] true)
 (.seq
 (.seq
 (.region [⟨some 362,.mov,[.t 30],none,[]⟩,
 ⟨some 363,(.bin .neq),[.t 362,.c (.int .i64 0)],none,[0]⟩,
 ⟨some 364,.mov,[.t 363],none,[1]⟩,
 ⟨some 365,.movv,[.t 29],(some (364,false)),[2]⟩,
 ⟨some 366,.len,[.t 365],(some (364,false)),[3,2]⟩,
 ⟨some 367,.movv,[.t 18],(some (364,false)),[2]⟩,
 ⟨some 368,.len,[.t 367],(some (364,false)),[5,2]⟩,
 ⟨some 369,(.bin .neq),[.t 366,.t 368],(some (364,false)),[4,6,2]⟩,
 ⟨some 370,.pick,[.t 364,.c (.bool true),.t 369],none,[2,7]⟩] false)
 (.cond (.t 370)
 (.seq
 (.region [⟨some 6,.mov,[.c (.bool false)],none,[]⟩] false)
 .ret)
 .skip))
 (.keep [3,4,5,16,18,25,26,28,29] [3,4,5,16,26] b9k6))))
 (.keep [3,4,5,16,18,25,26,28] [3,4,5,16,26] b9k7))
def b9l2:DCode:=.keep [3,4,5,16,18,25,26,28] [3,4,5,16,26]
 (.seq
 (.seq
 (.region [⟨some 341,.mov,[.t 28],none,[]⟩,
 ⟨some 342,.movv,[.t 25],none,[]⟩,
 ⟨some 343,.len,[.t 342],none,[1]⟩,
 ⟨some 344,(.bin .lss),[.t 341,.t 343],none,[0,2]⟩] false)
 (.cond (.t 344)
 .skip
 (.exit 2)))
 (.keep [3,4,5,16,18,25,26,28] [3,4,5,16,26] b9k8))
def b9k9:DCode :=
 (.seq
 (.region [⟨some 385,(.load true 5),[.t 3],none,[]⟩,
 ⟨some 386,(.load true 4),[.t 4],none,[]⟩,
 ⟨some 387,(.faddr 0 true 7),[.t 5],none,[]⟩,
 ⟨some 388,(.load true 7),[.t 387],none,[2]⟩,
 ⟨some 389,(.load true 2),[.t 16],none,[]⟩,
 ⟨some 390,.call,[.f 87,.t 385,.t 386,.t 388,.t 389],none,[0,1,3,4]⟩,
 ⟨some 6,.mov,[.t 390],none,[5,5,0,1,2,3,4,5]⟩] false)
 .ret)
def b9k10:DCode :=
 (.seq
 (.seq
 (.region [⟨some 28,.mov,[.c (.int .i64 0)],none,[]⟩] false)
 (.block 2
 (.loop b9l2)))
 (.keep [3,4,5,16] [3,4,5,16] b9k9))
def b9k11:DCode :=
 (.seq
 (.region [⟨some 278,(.faddr 0 true 2),[.t 15],none,[]⟩,
 ⟨some 279,(.faddr 0 false 1),[.t 278],none,[0]⟩,
 ⟨some 280,(.load false 1),[.t 279],none,[1]⟩,
 ⟨some 281,(.faddr 2 true 2),[.t 15],none,[]⟩,
 ⟨some 282,(.faddr 0 false 1),[.t 281],none,[3]⟩,
 ⟨some 283,(.load false 1),[.t 282],none,[4]⟩,
 ⟨some 284,(.build [(.imm (.int .i64 0)),(.imm (.int .i64 0))] [(0,1),(1,1)]),[.t 280,.t 283],none,[2,5]⟩,
 ⟨some 285,(.faddr 0 true 2),[.t 15],none,[]⟩,
 ⟨some 286,(.faddr 1 false 1),[.t 285],none,[7]⟩,
 ⟨some 287,(.load false 1),[.t 286],none,[8]⟩,
 ⟨some 288,(.faddr 2 true 2),[.t 15],none,[]⟩,
 ⟨some 289,(.faddr 0 false 1),[.t 288],none,[10]⟩,
 ⟨some 290,(.load false 1),[.t 289],none,[11]⟩,
 ⟨some 291,(.build [(.imm (.int .i64 0)),(.imm (.int .i64 0))] [(0,1),(1,1)]),[.t 287,.t 290],none,[9,12]⟩,
 ⟨some 292,(.faddr 0 true 2),[.t 15],none,[]⟩,
 ⟨some 293,(.faddr 0 false 1),[.t 292],none,[14]⟩,
 ⟨some 294,(.load false 1),[.t 293],none,[15]⟩,
 ⟨some 295,(.faddr 2 true 2),[.t 15],none,[]⟩,
 ⟨some 296,(.faddr 1 false 1),[.t 295],none,[17]⟩,
 ⟨some 297,(.load false 1),[.t 296],none,[18]⟩,
 ⟨some 298,(.build [(.imm (.int .i64 0)),(.imm (.int .i64 0))] [(0,1),(1,1)]),[.t 294,.t 297],none,[16,19]⟩,
 ⟨some 299,(.faddr 0 true 2),[.t 15],none,[]⟩,
 ⟨some 300,(.faddr 1 false 1),[.t 299],none,[21]⟩,
 ⟨some 301,(.load false 1),[.t 300],none,[22]⟩,
 ⟨some 302,(.faddr 2 true 2),[.t 15],none,[]⟩,
 ⟨some 303,(.faddr 1 false 1),[.t 302],none,[24]⟩,
 ⟨some 304,(.load false 1),[.t 303],none,[25]⟩,
 ⟨some 305,(.build [(.imm (.int .i64 0)),(.imm (.int .i64 0))] [(0,1),(1,1)]),[.t 301,.t 304],none,[23,26]⟩,
 ⟨some 306,(.bsl 2),[.t 284,.t 291,.t 298,.t 305],none,[6,13,20,27]⟩,
 ⟨some 25,.movv,[.t 306],none,[28,0,1,2,3,4,5,6,7,8,9,10,11,12,13,14,15,16,17,18,19,20,21,22,23,24,25,26,27,28]⟩] false)
 (.seq
 (.region [⟨some 308,(.load true 5),[.t 3],none,[]⟩,
 ⟨some 309,(.load true 4),[.t 4],none,[]⟩,
 ⟨some 310,.call,[.f 73,.t 309],none,[1]⟩,
 ⟨some 311,.movv,[.t 25],none,[]⟩,
 ⟨some 312,.call,[.f 83,.t 311],none,[3,2]⟩,
 ⟨some 313,.call,[.f 82,.t 308,.t 310,.t 312],none,[0,2,4,4]⟩,
 ⟨some 307,.mov,[.t 313],none,[5]⟩,
 ⟨some 314,(.ext 0),[.t 307],none,[6]⟩,
 ⟨some 315,(.ext 1),[.t 307],none,[6]⟩,
 ⟨some 26,(.alloc [(.imm (.slc 1 [])),(.imm (.int .i64 0)),(.imm (.int .i64 0)),(.imm (.int .i64 0)),(.imm (.int .i64 0))]),[],none,[]⟩,
 ⟨none,(.store 5),[.t 26,.t 314],none,[9,7,5,0,1,2,3,4,5,6,7,9]⟩,
 ⟨some 27,.mov,[.t 315],none,[8,10,0,1,2,3,4,5,6,7,8,9,10]⟩] true)
 (.seq
 (.seq
 (.region [⟨some 316,.mov,[.t 27],none,[]⟩,
 ⟨some 317,(.bin .neq),[.t 316,.c (.int .i64 0)],none,[0]⟩,
 ⟨some 318,.mov,[.t 317],none,[1]⟩,
 ⟨some 319,(.load true 5),[.t 3],(some (318,false)),[2]⟩,
 ⟨some 320,(.load true 4),[.t 4],(some (318,false)),[2]⟩,
 ⟨some 321,.call,[.f 73,.t 320],(some (318,false)),[4,2,2]⟩,
 ⟨some 322,(.load true 5),[.t 26],(some (318,false)),[2]⟩,
 ⟨some 323,.call,[.f 85,.t 322],(some (318,false)),[6,5,2]⟩,
 ⟨some 324,.call,[.f 84,.t 319,.t 321,.t 323],(some (318,false)),[3,5,7,7,2]⟩,
 ⟨some 325,(.bin .neq),[.t 324,.c (.int .i64 0)],(some (318,false)),[8,2]⟩,
 ⟨some 326,.pick,[.t 318,.c (.bool true),.t 325],none,[2,9]⟩,
 ⟨some 327,.mov,[.t 326],none,[10,8]⟩,
 ⟨some 328,(.faddr 4 false 1),[.t 26],(some (327,false)),[11]⟩,
 ⟨some 329,(.load false 1),[.t 328],(some (327,false)),[12,11]⟩,
 ⟨some 330,(.faddr 1 false 1),[.t 13],(some (327,false)),[11]⟩,
 ⟨some 331,(.load false 1),[.t 330],(some (327,false)),[14,11]⟩,
 ⟨some 332,(.bin .gtr),[.t 329,.t 331],(some (327,false)),[13,15,11]⟩,
 ⟨some 333,.pick,[.t 327,.c (.bool true),.t 332],none,[11,16]⟩,
 ⟨some 334,.mov,[.t 333],none,[17,11]⟩,
 ⟨some 335,(.faddr 4 false 1),[.t 26],(some (334,false)),[18]⟩,
 ⟨some 336,(.load false 1),[.t 335],(some (334,false)),[19,18]⟩,
 ⟨some 337,(.faddr 0 false 1),[.t 13],(some (334,false)),[18]⟩,
 ⟨some 338,(.load false 1),[.t 337],(some (334,false)),[21,18]⟩,
 ⟨some 339,(.bin .lss),[.t 336,.t 338],(some (334,false)),[20,22,18]⟩,
 ⟨some 340,.pick,[.t 334,.c (.bool true),.t 339],none,[18,23]⟩] true)
 (.cond (.t 340)
 (.seq
 (.region [⟨some 6,.mov,[.c (.bool false)],none,[]⟩] false)
 .ret)
 .skip))
 (.keep [3,4,5,16,18,25,26] [3,4,5,16,26] b9k10))))
def b9k12:DCode :=
 (.seq
 (.region [⟨some 224,(.load true 2),[.t 16],none,[]⟩,
 ⟨some 20,(.alloc [(.imm (.int .i64 0)),(.imm (.int .i64 0))]),[],none,[]⟩,
 ⟨none,(.store 2),[.t 20,.t 224],none,[1,0,0,1]⟩] false)
 (.seq
 (.seq
 (.region [⟨some 21,.mov,[.c (.int .i64 0)],none,[]⟩] false)
 (.block 0
 (.loop b9l0)))
 (.keep [3,4,5,13,15,16,18] [3,4,5,13,15,16] b9k11)))
def b9k13:DCode :=
 (.seq
 (.region [⟨some 153,(.faddr 0 true 7),[.t 5],none,[]⟩,
 ⟨some 154,(.faddr 0 true 4),[.t 153],none,[0]⟩,
 ⟨some 155,(.load true 4),[.t 154],none,[1]⟩,
 ⟨some 15,(.alloc [(.imm (.int .i64 0)),(.imm (.int .i64 0)),(.imm (.int .i64 0)),(.imm (.int .i64 0))]),[],none,[]⟩,
 ⟨none,(.store 4),[.t 15,.t 155],none,[3,2,0,1,2,3]⟩] false)
 (.seq
 (.region [⟨some 156,(.faddr 0 true 2),[.t 15],none,[]⟩,
 ⟨some 157,(.faddr 0 false 1),[.t 156],none,[0]⟩,
 ⟨some 158,(.load false 1),[.t 157],none,[1]⟩,
 ⟨some 159,(.faddr 7 false 1),[.t 5],none,[]⟩,
 ⟨some 160,(.load false 1),[.t 159],none,[3]⟩,
 ⟨some 161,(.iaddr 1),[.t 160,.c (.int .i64 0)],none,[4]⟩,
 ⟨some 162,(.load false 1),[.t 161],none,[5]⟩,
 ⟨some 163,(.faddr 0 true 2),[.t 15],none,[]⟩,
 ⟨some 164,(.faddr 1 false 1),[.t 163],none,[7]⟩,
 ⟨some 165,(.load false 1),[.t 164],none,[8]⟩,
 ⟨some 166,(.faddr 0 true 2),[.t 15],none,[]⟩,
 ⟨some 167,(.faddr 0 false 1),[.t 166],none,[10]⟩,
 ⟨some 168,(.load false 1),[.t 167],none,[11]⟩,
 ⟨some 169,(.bin .sub),[.t 165,.t 168],none,[9,12]⟩,
 ⟨some 170,(.bin .add),[.t 169,.c (.int .i64 1)],none,[13]⟩,
 ⟨some 171,.call,[.f 77,.t 162,.t 170],none,[6,14]⟩,
 ⟨some 172,(.bin .add),[.t 158,.t 171],none,[2,15]⟩,
 ⟨some 173,(.faddr 2 true 2),[.t 15],none,[]⟩,
 ⟨some 174,(.faddr 0 false 1),[.t 173],none,[17]⟩,
 ⟨some 175,(.load false 1),[.t 174],none,[18]⟩,
 ⟨some 176,(.faddr 7 false 1),[.t 5],none,[]⟩,
 ⟨some 177,(.load false 1),[.t 176],none,[20]⟩,
 ⟨some 178,(.iaddr 1),[.t 177,.c (.int .i64 1)],none,[21]⟩,
 ⟨some 179,(.load false 1),[.t 178],none,[22]⟩,
 ⟨some 180,(.faddr 2 true 2),[.t 15],none,[]⟩,
 ⟨some 181,(.faddr 1 false 1),[.t 180],none,[24]⟩,
 ⟨some 182,(.load false 1),[.t 181],none,[25]⟩,
 ⟨some 183,(.faddr 2 true 2),[.t 15],none,[]⟩,
 ⟨some 184,(.faddr 0 false 1),[.t 183],none,[27]⟩,
 ⟨some 185,(.load false 1),[.t 184],none,[28]⟩,
 ⟨some 186,(.bin .sub),[.t 182,.t 185],none,[26,29]⟩,
 ⟨some 187,(.bin .add),[.t 186,.c (.int .i64 1)],none,[30]⟩,
 ⟨some 188,.call,[.f 77,.t 179,.t 187],none,[23,31,15]⟩,
 ⟨some 189,(.bin .add),[.t 175,.t 188],none,[19,32]⟩,
 ⟨some 190,(.build [(.imm (.int .i64 0)),(.imm (.int .i64 0))] [(0,1),(1,1)]),[.t 172,.t 189],none,[16,33]⟩,
 ⟨some 16,(.alloc [(.imm (.int .i64 0)),(.imm (.int .i64 0))]),[],none,[]⟩,
 ⟨none,(.store 2),[.t 16,.t 190],none,[35,34,32,0,1,2,3,4,5,6,7,8,9,10,11,12,13,14,15,16,17,18,19,20,21,22,23,24,25,26,27,28,29,30,31,32,33,34,35]⟩] true)
 (.seq
 (.region [⟨some 191,.movv,[.t 11],none,[]⟩,
 ⟨some 192,(.faddr 7 false 1),[.t 5],none,[]⟩,
 ⟨some 193,(.load false 1),[.t 192],none,[1]⟩,
 ⟨some 194,(.iaddr 1),[.t 193,.c (.int .i64 0)],none,[2]⟩,
 ⟨some 195,(.load false 1),[.t 194],none,[3]⟩,
 ⟨some 196,.movv,[.t 11],none,[]⟩,
 ⟨some 197,.len,[.t 196],none,[5]⟩,
 ⟨some 198,.call,[.f 77,.t 195,.t 197],none,[4,6]⟩,
 ⟨some 199,(.iaddr 1),[.t 191,.t 198],none,[0,7]⟩,
 ⟨some 200,(.load false 1),[.t 199],none,[8]⟩,
 ⟨some 17,.movv,[.t 200],none,[9,7,0,1,2,3,4,5,6,7,8,9]⟩] false)
 (.seq
 (.region [⟨some 202,(.load true 5),[.t 3],none,[]⟩,
 ⟨some 203,(.load true 4),[.t 4],none,[]⟩,
 ⟨some 204,.call,[.f 73,.t 203],none,[1]⟩,
 ⟨some 205,.movv,[.t 17],none,[]⟩,
 ⟨some 206,.call,[.f 52,.t 205],none,[3,2]⟩,
 ⟨some 207,.call,[.f 78,.t 202,.t 204,.t 206],none,[0,2,4,4]⟩,
 ⟨some 201,.mov,[.t 207],none,[5]⟩,
 ⟨some 208,(.ext 0),[.t 201],none,[6]⟩,
 ⟨some 209,(.ext 1),[.t 201],none,[6]⟩,
 ⟨some 18,.movv,[.t 208],none,[7,5,0,1,2,3,4,5,6,7]⟩,
 ⟨some 19,.mov,[.t 209],none,[8,9,0,1,2,3,4,5,6,7,8,9]⟩] true)
 (.seq
 (.seq
 (.region [⟨some 210,.mov,[.t 19],none,[]⟩,
 ⟨some 211,(.bin .neq),[.t 210,.c (.int .i64 0)],none,[0]⟩,
 ⟨some 212,.mov,[.t 211],none,[1]⟩,
 ⟨some 213,.movv,[.t 18],(some (212,false)),[2]⟩,
 ⟨some 214,.len,[.t 213],(some (212,false)),[3,2]⟩,
 ⟨some 215,(.faddr 3 false 1),[.t 4],(some (212,false)),[2]⟩,
 ⟨some 216,(.load false 1),[.t 215],(some (212,false)),[5,2]⟩,
 ⟨some 217,(.bin .neq),[.t 214,.t 216],(some (212,false)),[4,6,2]⟩,
 ⟨some 218,.pick,[.t 212,.c (.bool true),.t 217],none,[2,7]⟩,
 ⟨some 219,.mov,[.t 218],none,[8,2]⟩,
 ⟨some 220,.movv,[.t 18],(some (219,false)),[9]⟩,
 ⟨some 221,.call,[.f 79,.t 220],(some (219,false)),[10,9,9]⟩,
 ⟨some 222,(.bin .neq),[.t 221,.c (.int .i64 0)],(some (219,false)),[11,9]⟩,
 ⟨some 223,.pick,[.t 219,.c (.bool true),.t 222],none,[9,12]⟩] false)
 (.cond (.t 223)
 (.seq
 (.region [⟨some 6,.mov,[.c (.bool false)],none,[]⟩] false)
 .ret)
 .skip))
 (.keep [3,4,5,13,15,16,18] [3,4,5,13,15,16] b9k12))))))
def b9k14:DCode :=
 (.seq
 (.seq
 (.region [⟨some 151,.mov,[.t 14],none,[]⟩,
 ⟨some 152,(.bin .neq),[.t 151,.c (.int .i64 0)],none,[0]⟩] false)
 (.cond (.t 152)
 (.seq
 (.region [⟨some 6,.mov,[.c (.bool false)],none,[]⟩] false)
 .ret)
 .skip))
 (.keep [3,4,5,11,13] [3,4,5,13] b9k13))
def b9k15:DCode :=
 (.seq
 (.region [⟨some 125,(.load true 5),[.t 3],none,[]⟩,
 ⟨some 126,(.load true 4),[.t 4],none,[]⟩,
 ⟨some 127,.call,[.f 73,.t 126],none,[1]⟩,
 ⟨some 128,.movv,[.t 9],none,[]⟩,
 ⟨some 129,.call,[.f 76,.t 128],none,[3,2]⟩,
 ⟨some 130,.call,[.f 75,.t 125,.t 127,.t 129],none,[0,2,4,4]⟩,
 ⟨some 124,.mov,[.t 130],none,[5]⟩,
 ⟨some 131,(.ext 0),[.t 124],none,[6]⟩,
 ⟨some 132,(.ext 1),[.t 124],none,[6]⟩,
 ⟨some 13,(.alloc [(.imm (.int .i64 0)),(.imm (.int .i64 0))]),[],none,[]⟩,
 ⟨none,(.store 2),[.t 13,.t 131],none,[9,7,5,0,1,2,3,4,5,6,7,9]⟩,
 ⟨some 14,.mov,[.t 132],none,[8,10,0,1,2,3,4,5,6,7,8,9,10]⟩] true)
 (.seq
 (.seq
 (.region [⟨some 133,.mov,[.t 12],none,[]⟩,
 ⟨some 134,(.bin .neq),[.t 133,.c (.int .i64 0)],none,[0]⟩,
 ⟨some 135,.mov,[.t 134],none,[1]⟩,
 ⟨some 136,.movv,[.t 11],(some (135,false)),[2]⟩,
 ⟨some 137,.len,[.t 136],(some (135,false)),[3,2]⟩,
 ⟨some 138,(.bin .eql),[.t 137,.c (.int .i64 0)],(some (135,false)),[4,2]⟩,
 ⟨some 139,.pick,[.t 135,.c (.bool true),.t 138],none,[2,5]⟩,
 ⟨some 140,.mov,[.t 139],none,[6,2]⟩,
 ⟨some 141,.movv,[.t 11],(some (140,false)),[7]⟩,
 ⟨some 142,.len,[.t 141],(some (140,false)),[8,7]⟩,
 ⟨some 143,(.bin .gtr),[.t 142,.c (.int .i64 2)],(some (140,false)),[9,7]⟩,
 ⟨some 144,.pick,[.t 140,.c (.bool true),.t 143],none,[7,10]⟩] false)
 (.cond (.t 144)
 (.seq
 (.region [⟨some 145,.mov,[.t 12],none,[]⟩,
 ⟨some 146,(.bin .eql),[.t 145,.c (.int .i64 12)],none,[0]⟩,
 ⟨some 147,.mov,[.t 146],none,[1]⟩,
 ⟨some 148,.mov,[.t 14],(some (147,true)),[2]⟩,
 ⟨some 149,(.bin .eql),[.t 148,.c (.int .i64 12)],(some (147,true)),[3,2]⟩,
 ⟨some 150,.pick,[.t 147,.t 149,.c (.bool false)],none,[2,4]⟩,
 ⟨some 6,.mov,[.t 150],none,[5,2,0,1,2,3,4,5]⟩] false)
 .ret)
 .skip))
 (.keep [3,4,5,11,13,14] [3,4,5,13] b9k14)))
def b9k16:DCode :=
 (.seq
 (.region [⟨some 94,(.load true 5),[.t 3],none,[]⟩,
 ⟨some 95,(.faddr 0 true 7),[.t 5],none,[]⟩,
 ⟨some 96,(.load true 7),[.t 95],none,[1]⟩,
 ⟨some 97,.call,[.f 71,.t 94,.t 96],none,[0,2]⟩,
 ⟨some 93,.mov,[.t 97],none,[3]⟩,
 ⟨some 98,(.ext 0),[.t 93],none,[4]⟩,
 ⟨some 99,(.ext 1),[.t 93],none,[4]⟩,
 ⟨some 9,.movv,[.t 98],none,[5,3,0,1,2,3,4,5]⟩,
 ⟨some 10,.mov,[.t 99],none,[6,7,0,1,2,3,4,5,6,7]⟩] false)
 (.seq
 (.region [⟨some 101,(.load true 5),[.t 3],none,[]⟩,
 ⟨some 102,(.load true 4),[.t 4],none,[]⟩,
 ⟨some 103,.call,[.f 73,.t 102],none,[1]⟩,
 ⟨some 104,.call,[.f 72,.t 101,.t 103],none,[0,2,2]⟩,
 ⟨some 100,.mov,[.t 104],none,[3]⟩,
 ⟨some 105,(.ext 0),[.t 100],none,[4]⟩,
 ⟨some 106,(.ext 1),[.t 100],none,[4]⟩,
 ⟨some 11,.movv,[.t 105],none,[5,3,0,1,2,3,4,5]⟩,
 ⟨some 12,.mov,[.t 106],none,[6,7,0,1,2,3,4,5,6,7]⟩] true)
 (.seq
 (.seq
 (.region [⟨some 107,.mov,[.t 10],none,[]⟩,
 ⟨some 108,(.bin .neq),[.t 107,.c (.int .i64 0)],none,[0]⟩,
 ⟨some 109,.mov,[.t 108],none,[1]⟩,
 ⟨some 110,.movv,[.t 9],(some (109,false)),[2]⟩,
 ⟨some 111,.len,[.t 110],(some (109,false)),[3,2]⟩,
 ⟨some 112,(.bin .eql),[.t 111,.c (.int .i64 0)],(some (109,false)),[4,2]⟩,
 ⟨some 113,.pick,[.t 109,.c (.bool true),.t 112],none,[2,5]⟩,
 ⟨some 114,.mov,[.t 113],none,[6,2]⟩,
 ⟨some 115,.movv,[.t 9],(some (114,false)),[7]⟩,
 ⟨some 116,.len,[.t 115],(some (114,false)),[8,7]⟩,
 ⟨some 117,(.bin .gtr),[.t 116,.c (.int .i64 4)],(some (114,false)),[9,7]⟩,
 ⟨some 118,.pick,[.t 114,.c (.bool true),.t 117],none,[7,10]⟩,
 ⟨some 119,.mov,[.t 118],none,[11,7]⟩,
 ⟨some 120,.movv,[.t 9],(some (119,false)),[12]⟩,
 ⟨some 121,.call,[.f 74,.t 120],(some (119,false)),[13,12,12]⟩,
 ⟨some 122,(.bin .neq),[.t 121,.c (.int .i64 0)],(some (119,false)),[14,12]⟩,
 ⟨some 123,.pick,[.t 119,.c (.bool true),.t 122],none,[12,15]⟩] false)
 (.cond (.t 123)
 (.seq
 (.region [⟨some 6,.mov,[.c (.bool false)],none,[]⟩] false)
 .ret)
 .skip))
 (.keep [3,4,5,9,11,12] [3,4,5] b9k15))))
def b9k17:DCode :=
 (.seq
 (.region [⟨some 81,(.load true 5),[.t 3],none,[]⟩,
 ⟨some 82,.call,[.f 20,.t 81],none,[0]⟩,
 ⟨some 83,.call,[.f 21,.t 82],none,[1,1]⟩,
 ⟨some 80,.mov,[.t 83],none,[2]⟩,
 ⟨some 84,(.ext 0),[.t 80],none,[3]⟩,
 ⟨some 85,(.ext 1),[.t 80],none,[3]⟩,
 ⟨some 7,(.alloc [(.imm (.int .i64 0)),(.imm (.int .i64 0)),(.imm (.int .i64 0)),(.imm (.int .i64 0)),(.imm (.int .i64 0))]),[],none,[]⟩,
 ⟨none,(.store 5),[.t 7,.t 84],none,[6,4,2,0,1,2,3,4,6]⟩,
 ⟨some 8,.mov,[.t 85],none,[5,7,0,1,2,3,4,5,6,7]⟩] false)
 (.seq
 (.seq
 (.region [⟨some 86,.mov,[.t 8],none,[]⟩,
 ⟨some 87,(.bin .neq),[.t 86,.c (.int .i64 0)],none,[0]⟩,
 ⟨some 88,.mov,[.t 87],none,[1]⟩,
 ⟨some 89,(.load true 5),[.t 7],(some (88,false)),[2]⟩,
 ⟨some 90,(.load true 5),[.t 3],(some (88,false)),[2]⟩,
 ⟨some 91,(.eqs [false,false,false,false,false] true),[.t 89,.t 90],(some (88,false)),[3,4,2]⟩,
 ⟨some 92,.pick,[.t 88,.c (.bool true),.t 91],none,[2,5]⟩] false)
 (.cond (.t 92)
 (.seq
 (.region [⟨some 6,.mov,[.c (.bool false)],none,[]⟩] false)
 .ret)
 .skip))
 (.keep [3,4,5] [3,4,5] b9k16)))
def b9k18:DCode :=
 (.seq
 (.seq
 (.region [⟨some 34,(.load true 5),[.t 3],none,[]⟩,
 ⟨some 35,(.load true 4),[.t 4],none,[]⟩,
 ⟨some 36,.call,[.f 68,.t 34,.t 35],none,[0,1]⟩,
 ⟨some 37,(.bin .neq),[.t 36,.c (.int .i64 0)],none,[2]⟩,
 ⟨some 38,.mov,[.t 37],none,[3,2]⟩,
 ⟨some 39,(.faddr 1 false 1),[.t 4],(some (38,false)),[4]⟩,
 ⟨some 40,(.load false 1),[.t 39],(some (38,false)),[5,4]⟩,
 ⟨some 41,.len,[.t 40],(some (38,false)),[6,4]⟩,
 ⟨some 42,(.bin .gtr),[.t 41,.c (.int .i64 2)],(some (38,false)),[7,4]⟩,
 ⟨some 43,.pick,[.t 38,.c (.bool true),.t 42],none,[4,8]⟩,
 ⟨some 44,.mov,[.t 43],none,[9,4]⟩,
 ⟨some 45,(.faddr 3 false 1),[.t 4],(some (44,false)),[10]⟩,
 ⟨some 46,(.load false 1),[.t 45],(some (44,false)),[11,10]⟩,
 ⟨some 47,(.bin .gtr),[.t 46,.c (.int .i64 12)],(some (44,false)),[12,10]⟩,
 ⟨some 48,.pick,[.t 44,.c (.bool true),.t 47],none,[10,13]⟩,
 ⟨some 49,.mov,[.t 48],none,[14,10]⟩,
 ⟨some 50,(.faddr 0 true 7),[.t 5],(some (49,false)),[15]⟩,
 ⟨some 51,(.load true 7),[.t 50],(some (49,false)),[16,15]⟩,
 ⟨some 52,.call,[.f 69,.t 51],(some (49,false)),[17,15,15]⟩,
 ⟨some 53,(.bin .neq),[.t 52,.c (.int .i64 0)],(some (49,false)),[18,15]⟩,
 ⟨some 54,.pick,[.t 49,.c (.bool true),.t 53],none,[15,19]⟩,
 ⟨some 55,.mov,[.t 54],none,[20,18]⟩,
 ⟨some 56,(.faddr 0 true 7),[.t 5],(some (55,false)),[21]⟩,
 ⟨some 57,(.faddr 4 false 1),[.t 56],(some (55,false)),[22,21]⟩,
 ⟨some 58,(.load false 1),[.t 57],(some (55,false)),[23,21]⟩,
 ⟨some 59,(.bin .gtr),[.t 58,.c (.int .i64 2)],(some (55,false)),[24,21]⟩,
 ⟨some 60,.pick,[.t 55,.c (.bool true),.t 59],none,[21,25]⟩,
 ⟨some 61,.mov,[.t 60],none,[26,21]⟩,
 ⟨some 62,(.faddr 0 true 7),[.t 5],(some (61,false)),[27]⟩,
 ⟨some 63,(.faddr 0 true 4),[.t 62],(some (61,false)),[28,27]⟩,
 ⟨some 64,(.load true 4),[.t 63],(some (61,false)),[29,27]⟩,
 ⟨some 65,.call,[.f 70,.t 64],(some (61,false)),[30,27,27]⟩,
 ⟨some 66,(.bin .gtr),[.t 65,.c (.int .i64 100)],(some (61,false)),[31,27]⟩,
 ⟨some 67,.pick,[.t 61,.c (.bool true),.t 66],none,[27,32]⟩,
 ⟨some 68,.mov,[.t 67],none,[33,31]⟩,
 ⟨some 69,(.faddr 7 false 1),[.t 5],(some (68,false)),[34]⟩,
 ⟨some 70,(.load false 1),[.t 69],(some (68,false)),[35,34]⟩,
 ⟨some 71,.len,[.t 70],(some (68,false)),[36,34]⟩,
 ⟨some 72,(.bin .lss),[.t 71,.c (.int .i64 14)],(some (68,false)),[37,34]⟩,
 ⟨some 73,.pick,[.t 68,.c (.bool true),.t 72],none,[34,38]⟩,
 ⟨some 74,.mov,[.t 73],none,[39,34]⟩,
 ⟨some 75,(.faddr 7 false 1),[.t 5],(some (74,false)),[40]⟩,
 ⟨some 76,(.load false 1),[.t 75],(some (74,false)),[41,40]⟩,
 ⟨some 77,.len,[.t 76],(some (74,false)),[42,40]⟩,
 ⟨some 78,(.bin .gtr),[.t 77,.c (.int .i64 40)],(some (74,false)),[43,40]⟩,
 ⟨some 79,.pick,[.t 74,.c (.bool true),.t 78],none,[40,44]⟩] false)
 (.cond (.t 79)
 (.seq
 (.region [⟨some 6,.mov,[.c (.bool true)],none,[]⟩] false)
 .ret)
 .skip))
 (.keep [3,4,5] [3,4,5] b9k17))
def b9:DCode :=
 (.seq
 (.region [⟨some 3,.box,[.t 0],none,[]⟩,
 ⟨some 4,.box,[.t 1],none,[]⟩,
 ⟨some 5,.box,[.t 2],none,[]⟩,
 ⟨some 6,.mov,[.c (.bool false)],none,[]⟩] false)
 (.seq
 (.seq
 (.region [⟨some 32,.call,[.f 67],none,[]⟩,
 ⟨some 33,(.un .not),[.t 32],none,[0]⟩] false)
 (.cond (.t 33)
 (.seq
 (.region [⟨some 6,.mov,[.c (.bool false)],none,[]⟩] false)
 .ret)
 .skip))
 (.keep [3,4,5] [3,4,5] b9k18)))
def d9:DFn:=⟨3,391,[.tmp 6],b9⟩
theorem body9:d9.body=b9:=rfl
theorem res9:d9.res=[.tmp 6]:=rfl
theorem k9:chkFn Tryz.prog Tryz.f9 d9=true:=by kernel_rfl
end Go.DI


/- Contracts of hours, steps, holds, volumes and copies. No condition. -/
import Derived.Test.YtafeooaccdebkaaDsGe
import Derived.Test.YtafeooaccdebkaaProg
import Derived.KernelRfl
import Derived.Test.YtafeooaccdebkaaDsGf
/- The functions of chapter 8 that plan, follow and settle, as data. No condition. -/
namespace Go.DI
open Go.Proofs Go.RowKit
def b28:DCode :=
 (.seq
 (.region [⟨some 2,.box,[.t 0],none,[]⟩,
 ⟨some 4,.mov,[.c (.bool false)],none,[]⟩] false)
 (.seq
 (.region [⟨some 5,.mov,[.t 1],none,[]⟩,
 ⟨some 6,(.faddr 0 true 3),[.t 2],none,[]⟩,
 ⟨some 7,(.faddr 2 false 1),[.t 6],none,[1]⟩,
 ⟨some 8,(.load false 1),[.t 7],none,[2]⟩,
 ⟨some 9,.len,[.t 8],none,[3]⟩,
 ⟨some 10,(.bin .sub),[.t 9,.c (.int .i64 1)],none,[4]⟩,
 ⟨some 11,.call,[.f 29,.t 5,.c (.int .i64 0),.t 10],none,[0,5]⟩,
 ⟨some 4,.mov,[.t 11],none,[6,6,0,1,2,3,4,5,6]⟩] false)
 .ret))
def d28:DFn:=⟨2,12,[.tmp 4],b28⟩
theorem body28:d28.body=b28:=rfl
theorem res28:d28.res=[.tmp 4]:=rfl
theorem k28:chkFn Try.prog Try.f28 d28=true:=by kernel_rfl
def b55:DCode :=
 (.seq
 (.region [⟨some 2,.box,[.t 0],none,[]⟩,
 ⟨some 4,.mov,[.c (.bool false)],none,[]⟩] false)
 (.seq
 (.region [⟨some 5,.mov,[.t 1],none,[]⟩,
 ⟨some 6,(.faddr 0 true 3),[.t 2],none,[]⟩,
 ⟨some 7,(.faddr 0 false 1),[.t 6],none,[1]⟩,
 ⟨some 8,(.load false 1),[.t 7],none,[2]⟩,
 ⟨some 9,(.faddr 0 true 3),[.t 2],none,[]⟩,
 ⟨some 10,(.faddr 1 false 1),[.t 9],none,[4]⟩,
 ⟨some 11,(.load false 1),[.t 10],none,[5]⟩,
 ⟨some 12,.call,[.f 29,.t 5,.t 8,.t 11],none,[0,3,6]⟩,
 ⟨some 4,.mov,[.t 12],none,[7,7,0,1,2,3,4,5,6,7]⟩] false)
 .ret))
def d55:DFn:=⟨2,13,[.tmp 4],b55⟩
theorem body55:d55.body=b55:=rfl
theorem res55:d55.res=[.tmp 4]:=rfl
theorem k55:chkFn Try.prog Try.f55 d55=true:=by kernel_rfl
def b54:DCode :=
 (.seq
 (.region [⟨some 4,.box,[.t 0],none,[]⟩,
 ⟨some 8,.mov,[.c (.int .i64 0)],none,[]⟩] false)
 (.seq
 (.region [⟨some 9,.mov,[.t 1],none,[]⟩,
 ⟨some 10,(.faddr 3 true 4),[.t 4],none,[]⟩,
 ⟨some 11,(.faddr 3 false 1),[.t 10],none,[1]⟩,
 ⟨some 12,(.load false 1),[.t 11],none,[2]⟩,
 ⟨some 13,.mov,[.t 2],none,[]⟩,
 ⟨some 14,(.iaddr 3),[.t 12,.t 13],none,[3,4]⟩,
 ⟨some 15,(.faddr 2 false 1),[.t 14],none,[5]⟩,
 ⟨some 16,(.load false 1),[.t 15],none,[6]⟩,
 ⟨some 17,(.bin .add),[.t 9,.t 16],none,[0,7]⟩,
 ⟨some 18,(.faddr 0 true 3),[.t 4],none,[]⟩,
 ⟨some 19,(.faddr 2 false 1),[.t 18],none,[9]⟩,
 ⟨some 20,(.load false 1),[.t 19],none,[10]⟩,
 ⟨some 21,.mov,[.t 3],none,[]⟩,
 ⟨some 22,(.iaddr 4),[.t 20,.t 21],none,[11,12]⟩,
 ⟨some 23,(.faddr 1 false 1),[.t 22],none,[13]⟩,
 ⟨some 24,(.load false 1),[.t 23],none,[14]⟩,
 ⟨some 25,(.bin .add),[.t 17,.t 24],none,[8,15]⟩,
 ⟨some 8,.mov,[.t 25],none,[16,0,1,2,3,4,5,6,7,8,9,10,11,12,13,14,15,16]⟩] true)
 .ret))
def d54:DFn:=⟨4,26,[.tmp 8],b54⟩
theorem body54:d54.body=b54:=rfl
theorem res54:d54.res=[.tmp 8]:=rfl
theorem k54:chkFn Try.prog Try.f54 d54=true:=by kernel_rfl
def b42k0:DCode :=
 (.seq
 (.region [⟨some 43,.mov,[.t 12],none,[]⟩,
 ⟨some 8,.mov,[.t 43],none,[0,0]⟩] false)
 .ret)
def b42k1:DCode :=
 (.seq
 (.region [⟨some 32,(.faddr 2 false 1),[.t 9],none,[]⟩,
 ⟨some 33,(.load false 1),[.t 32],none,[0]⟩,
 ⟨some 34,.mov,[.t 11],none,[]⟩,
 ⟨some 35,(.bin .mul),[.t 33,.t 34],none,[1,2]⟩,
 ⟨some 12,.mov,[.t 35],none,[3,0,1,2,3]⟩] false)
 (.seq
 (.seq
 (.region [⟨some 36,.mov,[.t 2],none,[]⟩,
 ⟨some 37,.mov,[.t 3],none,[]⟩,
 ⟨some 38,(.bin .neq),[.t 36,.t 37],none,[0,1]⟩] false)
 (.cond (.t 38)
 (.region [⟨some 39,.mov,[.t 12],none,[]⟩,
 ⟨some 40,(.faddr 3 false 1),[.t 9],none,[]⟩,
 ⟨some 41,(.load false 1),[.t 40],none,[1]⟩,
 ⟨some 42,(.bin .sub),[.t 39,.t 41],none,[0,2]⟩,
 ⟨some 12,.mov,[.t 42],none,[3,0,1,2,3]⟩] false)
 .skip))
 (.keep [12] [] b42k0)))
def b42:DCode :=
 (.seq
 (.region [⟨some 4,.box,[.t 0],none,[]⟩,
 ⟨some 8,.mov,[.c (.int .i64 0)],none,[]⟩] false)
 (.seq
 (.region [⟨some 13,(.faddr 0 true 3),[.t 4],none,[]⟩,
 ⟨some 14,(.faddr 2 false 1),[.t 13],none,[0]⟩,
 ⟨some 15,(.loadf false 1 [4]),[.t 14],none,[1]⟩,
 ⟨some 16,.mov,[.t 3],none,[]⟩,
 ⟨some 17,(.iaddr 4),[.t 15,.t 16],none,[2,3]⟩,
 ⟨some 18,(.loadf true 4 []),[.t 17],none,[4]⟩,
 ⟨some 19,(.faddr 3 true 4),[.t 4],none,[]⟩,
 ⟨some 20,(.faddr 3 false 1),[.t 19],none,[6]⟩,
 ⟨some 21,(.loadf false 1 [4]),[.t 20],none,[7]⟩,
 ⟨some 22,.mov,[.t 1],none,[]⟩,
 ⟨some 23,(.iaddr 3),[.t 21,.t 22],none,[8,9]⟩,
 ⟨some 24,(.loadf true 3 []),[.t 23],none,[10]⟩,
 ⟨some 9,(.alloc [(.imm (.str ⟨#[]⟩)),(.imm (.int .i64 0)),(.imm (.int .i64 0)),(.imm (.int .i64 0))]),[],none,[]⟩,
 ⟨some 10,(.alloc [(.imm (.int .i64 0)),(.imm (.int .i64 0)),(.imm (.int .i64 0))]),[],none,[]⟩,
 ⟨none,(.storef 4 [9]),[.t 9,.t 18],none,[12,5,0,1,2,3,4,5,12,13]⟩,
 ⟨none,(.storef 3 [10]),[.t 10,.t 24],none,[13,11,14,0,1,2,3,4,5,6,7,8,9,10,11,12,13,14]⟩] true)
 (.seq
 (.region [⟨some 25,(.faddr 0 false 1),[.t 10],none,[]⟩,
 ⟨some 26,(.load false 1),[.t 25],none,[0]⟩,
 ⟨some 11,.mov,[.t 26],none,[1,0,1]⟩] false)
 (.seq
 (.seq
 (.region [⟨some 27,(.faddr 2 false 1),[.t 9],none,[]⟩,
 ⟨some 28,(.load false 1),[.t 27],none,[0]⟩,
 ⟨some 29,(.bin .gtr),[.t 28,.c (.int .i64 0)],none,[1]⟩] false)
 (.cond (.t 29)
 (.region [⟨some 30,(.faddr 1 false 1),[.t 10],none,[]⟩,
 ⟨some 31,(.load false 1),[.t 30],none,[0]⟩,
 ⟨some 11,.mov,[.t 31],none,[1,0,1]⟩] false)
 .skip))
 (.keep [2,3,9,11] [9] b42k1)))))
def d42:DFn:=⟨4,44,[.tmp 8],b42⟩
theorem body42:d42.body=b42:=rfl
theorem res42:d42.res=[.tmp 8]:=rfl
theorem k42:chkFn Try.prog Try.f42 d42=true:=by kernel_rfl
def b45k0:DCode :=
 (.region [⟨some 33,.mov,[.t 6],none,[]⟩,
 ⟨some 34,.mov,[.t 9],none,[]⟩,
 ⟨some 35,(.bsl 1),[.t 34],none,[1]⟩,
 ⟨some 36,(.append 1 8 false),[.t 33,.t 35],none,[0,2]⟩,
 ⟨some 6,.mov,[.t 36],none,[3,3,0,1,2,3]⟩] false)
def b45k1:DCode :=
 (.region [⟨some 37,(.bin .add),[.t 16,.c (.int .i64 1)],none,[]⟩,
 ⟨some 16,.mov,[.t 37],none,[0]⟩] false)
def b45k2:DCode :=
 (.seq
 (.block 1
 (.seq
 (.region [⟨some 18,.mov,[.t 16],none,[]⟩,
 ⟨some 19,(.iaddr 1),[.t 14,.t 16],none,[]⟩,
 ⟨some 20,(.load false 1),[.t 19],none,[1]⟩,
 ⟨some 7,.mov,[.t 18],none,[0,0,1,2]⟩,
 ⟨some 8,.mov,[.t 20],none,[2,3,0,1,2,3]⟩] false)
 (.seq
 (.region [⟨some 21,(.load true 7),[.t 2],none,[]⟩,
 ⟨some 22,.movv,[.t 6],none,[]⟩,
 ⟨some 23,.mov,[.t 7],none,[]⟩,
 ⟨some 24,(.iaddr 1),[.t 22,.t 23],none,[1,2]⟩,
 ⟨some 25,(.load false 1),[.t 24],none,[3]⟩,
 ⟨some 26,.mov,[.t 7],none,[]⟩,
 ⟨some 27,.mov,[.t 8],none,[]⟩,
 ⟨some 28,.call,[.f 54,.t 21,.t 25,.t 26,.t 27],none,[0,4,5,6]⟩,
 ⟨some 9,.mov,[.t 28],none,[7,7,0,1,2,3,4,5,6,7]⟩] true)
 (.seq
 (.seq
 (.region [⟨some 29,(.load true 7),[.t 2],none,[]⟩,
 ⟨some 30,.mov,[.t 9],none,[]⟩,
 ⟨some 31,.call,[.f 55,.t 29,.t 30],none,[0,1]⟩,
 ⟨some 32,(.un .not),[.t 31],none,[2]⟩] false)
 (.cond (.t 32)
 (.seq
 (.region [⟨some 4,.mov,[.c (.slc 1 [])],none,[]⟩,
 ⟨some 5,.mov,[.c (.bool false)],none,[0,0]⟩] false)
 .ret)
 .skip))
 (.keep [2,6,9,14,15,16] [2,36] b45k0)))))
 (.keep [2,6,14,15,16] [2,36] b45k1))
def b45l0:DCode:=.keep [2,6,14,15,16] [2,36]
 (.seq
 (.region [⟨some 17,(.bin .lss),[.t 16,.t 15],none,[]⟩] false)
 (.seq
 (.cond (.t 17)
 .skip
 (.exit 0))
 (.keep [2,6,14,15,16] [2,36] b45k2)))
def b45k3:DCode :=
 (.seq
 (.region [⟨some 38,.movv,[.t 6],none,[]⟩,
 ⟨some 4,.movv,[.t 38],none,[0,0]⟩,
 ⟨some 5,.mov,[.c (.bool true)],none,[1,0,1]⟩] false)
 .ret)
def b45:DCode :=
 (.seq
 (.region [⟨some 2,.box,[.t 0],none,[]⟩,
 ⟨some 4,.mov,[.c (.slc 1 [])],none,[]⟩,
 ⟨some 5,.mov,[.c (.bool false)],none,[1]⟩] false)
 (.seq
 (.region [⟨some 10,(.faddr 3 true 4),[.t 2],none,[]⟩,
 ⟨some 11,(.faddr 0 false 1),[.t 10],none,[0]⟩,
 ⟨some 12,(.load false 1),[.t 11],none,[1]⟩,
 ⟨some 13,(.bsl 1),[.t 12],none,[2]⟩,
 ⟨some 6,.mov,[.t 13],none,[3,0,1,2,3]⟩] false)
 (.seq
 (.seq
 (.region [⟨some 14,.movv,[.t 1],none,[]⟩,
 ⟨some 15,.len,[.t 14],none,[0]⟩,
 ⟨some 16,.mov,[.c (.int .i64 0)],none,[]⟩] false)
 (.block 0
 (.loop b45l0)))
 (.keep [6] [36] b45k3))))
def d45:DFn:=⟨2,39,[.tmp 4,.tmp 5],b45⟩
theorem body45:d45.body=b45:=rfl
theorem res45:d45.res=[.tmp 4,.tmp 5]:=rfl
theorem k45:chkFn Try.prog Try.f45 d45=true:=by kernel_rfl
def b39:DCode :=
 (.seq
 (.region [⟨some 3,.box,[.t 0],none,[]⟩,
 ⟨some 6,.mov,[.c (.int .i64 0)],none,[]⟩] false)
 (.seq
 (.region [⟨some 7,.mov,[.t 1],none,[]⟩,
 ⟨some 8,(.faddr 0 true 3),[.t 3],none,[]⟩,
 ⟨some 9,(.faddr 0 false 1),[.t 8],none,[1]⟩,
 ⟨some 10,(.load false 1),[.t 9],none,[2]⟩,
 ⟨some 11,(.bin .sub),[.t 7,.t 10],none,[0,3]⟩,
 ⟨some 12,(.faddr 0 true 3),[.t 3],none,[]⟩,
 ⟨some 13,(.faddr 2 false 1),[.t 12],none,[5]⟩,
 ⟨some 14,(.load false 1),[.t 13],none,[6]⟩,
 ⟨some 15,.len,[.t 14],none,[7]⟩,
 ⟨some 16,(.bin .mul),[.t 11,.t 15],none,[4,8]⟩,
 ⟨some 17,.mov,[.t 2],none,[]⟩,
 ⟨some 18,(.bin .add),[.t 16,.t 17],none,[9,10]⟩,
 ⟨some 6,.mov,[.t 18],none,[11,0,1,2,3,4,5,6,7,8,9,10,11]⟩] false)
 .ret))
def d39:DFn:=⟨3,19,[.tmp 6],b39⟩
theorem body39:d39.body=b39:=rfl
theorem res39:d39.res=[.tmp 6]:=rfl
theorem k39:chkFn Try.prog Try.f39 d39=true:=by kernel_rfl
def b40:DCode :=
 (.seq
 (.region [⟨some 2,.mov,[.c (.bool false)],none,[]⟩] false)
 (.seq
 (.region [⟨some 3,.mov,[.t 0],none,[]⟩,
 ⟨some 4,(.bin .gtr),[.t 3,.c (.int .i64 (-50000000000))],none,[0]⟩,
 ⟨some 2,.mov,[.t 4],none,[1,0,1]⟩] false)
 .ret))
def d40:DFn:=⟨1,5,[.tmp 2],b40⟩
theorem body40:d40.body=b40:=rfl
theorem res40:d40.res=[.tmp 2]:=rfl
theorem k40:chkFn Try.prog Try.f40 d40=true:=by kernel_rfl
def b63k0:DCode :=
 (.region [⟨some 29,.mov,[.t 9],none,[]⟩,
 ⟨some 30,(.bin .add),[.t 29,.c (.int .i64 1)],none,[0]⟩,
 ⟨some 9,.mov,[.t 30],none,[1,0,1]⟩] false)
def b63k1:DCode :=
 (.block 1
 (.seq
 (.seq
 (.region [⟨some 18,(.load true 7),[.t 4],none,[]⟩,
 ⟨some 19,.mov,[.t 1],none,[]⟩,
 ⟨some 20,.mov,[.t 2],none,[]⟩,
 ⟨some 21,.mov,[.t 9],none,[]⟩,
 ⟨some 22,(.bin .add),[.t 20,.t 21],none,[2,3]⟩,
 ⟨some 23,.mov,[.t 3],none,[]⟩,
 ⟨some 24,.call,[.f 54,.t 18,.t 19,.t 22,.t 23],none,[0,1,4,5]⟩,
 ⟨some 1,.mov,[.t 24],none,[6,6,0,1,2,3,4,5,6]⟩] false)
 (.seq
 (.region [⟨some 25,(.load true 7),[.t 4],none,[]⟩,
 ⟨some 26,.mov,[.t 1],none,[]⟩,
 ⟨some 27,.call,[.f 55,.t 25,.t 26],none,[0,1]⟩,
 ⟨some 28,(.un .not),[.t 27],none,[2]⟩] false)
 (.cond (.t 28)
 (.exit 0)
 .skip)))
 (.keep [1,2,3,4,9] [4] b63k0)))
def b63l0:DCode:=.keep [1,2,3,4,9] [4]
 (.seq
 (.seq
 (.region [⟨some 10,.mov,[.t 2],none,[]⟩,
 ⟨some 11,.mov,[.t 9],none,[]⟩,
 ⟨some 12,(.bin .add),[.t 10,.t 11],none,[0,1]⟩,
 ⟨some 13,(.faddr 3 true 4),[.t 4],none,[]⟩,
 ⟨some 14,(.faddr 3 false 1),[.t 13],none,[3]⟩,
 ⟨some 15,(.load false 1),[.t 14],none,[4]⟩,
 ⟨some 16,.len,[.t 15],none,[5]⟩,
 ⟨some 17,(.bin .lss),[.t 12,.t 16],none,[2,6]⟩] false)
 (.cond (.t 17)
 .skip
 (.exit 0)))
 (.keep [1,2,3,4,9] [4] b63k1))
def b63k2:DCode :=
 (.seq
 (.region [⟨some 31,.mov,[.t 9],none,[]⟩,
 ⟨some 8,.mov,[.t 31],none,[0,0]⟩] false)
 .ret)
def b63:DCode :=
 (.seq
 (.region [⟨some 4,.box,[.t 0],none,[]⟩,
 ⟨some 8,.mov,[.c (.int .i64 0)],none,[]⟩] false)
 (.seq
 (.region [⟨some 9,.mov,[.c (.int .i64 0)],none,[]⟩] false)
 (.seq
 (.block 0
 (.loop b63l0))
 (.keep [9] [] b63k2))))
def d63:DFn:=⟨4,32,[.tmp 8],b63⟩
theorem body63:d63.body=b63:=rfl
theorem res63:d63.res=[.tmp 8]:=rfl
theorem k63:chkFn Try.prog Try.f63 d63=true:=by kernel_rfl
def b52:DCode :=
 (.seq
 (.region [⟨some 4,.box,[.t 0],none,[]⟩,
 ⟨some 7,.box,[.t 3],none,[]⟩,
 ⟨some 8,.mov,[.c (.bool false)],none,[]⟩] false)
 (.seq
 (.region [⟨some 9,(.faddr 0 false 1),[.t 7],none,[]⟩,
 ⟨some 10,(.load false 1),[.t 9],none,[0]⟩,
 ⟨some 11,(.bin .lss),[.t 10,.c (.int .i64 0)],none,[1]⟩,
 ⟨some 12,.mov,[.t 11],none,[2]⟩,
 ⟨some 13,(.load true 7),[.t 4],(some (12,false)),[3]⟩,
 ⟨some 14,.mov,[.t 1],(some (12,false)),[3]⟩,
 ⟨some 15,.mov,[.t 2],(some (12,false)),[3]⟩,
 ⟨some 16,(.faddr 0 false 1),[.t 7],(some (12,false)),[3]⟩,
 ⟨some 17,(.load false 1),[.t 16],(some (12,false)),[7,3]⟩,
 ⟨some 18,.call,[.f 63,.t 13,.t 14,.t 15,.t 17],(some (12,false)),[4,5,6,8,3,3]⟩,
 ⟨some 19,(.faddr 1 false 1),[.t 7],(some (12,false)),[3]⟩,
 ⟨some 20,(.load false 1),[.t 19],(some (12,false)),[10,3]⟩,
 ⟨some 21,(.faddr 3 true 4),[.t 4],(some (12,false)),[3]⟩,
 ⟨some 22,(.faddr 3 false 1),[.t 21],(some (12,false)),[12,3]⟩,
 ⟨some 23,(.load false 1),[.t 22],(some (12,false)),[13,3]⟩,
 ⟨some 24,.len,[.t 23],(some (12,false)),[14,3]⟩,
 ⟨some 25,.mov,[.t 2],(some (12,false)),[3]⟩,
 ⟨some 26,(.bin .sub),[.t 24,.t 25],(some (12,false)),[15,16,3]⟩,
 ⟨some 27,(.mm false),[.t 20,.t 26],(some (12,false)),[11,17,3]⟩,
 ⟨some 28,(.bin .geq),[.t 18,.t 27],(some (12,false)),[9,18,3]⟩,
 ⟨some 29,.pick,[.t 12,.c (.bool true),.t 28],none,[3,19]⟩,
 ⟨some 8,.mov,[.t 29],none,[20,9,0,1,2,3,4,5,6,7,8,9,10,11,12,13,14,15,16,17,18,19,20]⟩] true)
 .ret))
def d52:DFn:=⟨4,30,[.tmp 8],b52⟩
theorem body52:d52.body=b52:=rfl
theorem res52:d52.res=[.tmp 8]:=rfl
theorem k52:chkFn Try.prog Try.f52 d52=true:=by kernel_rfl
def b41:DCode :=
 (.seq
 (.region [⟨some 3,.box,[.t 0],none,[]⟩,
 ⟨some 4,.box,[.t 1],none,[]⟩,
 ⟨some 5,.box,[.t 2],none,[]⟩,
 ⟨some 6,.mov,[.c .nilf],none,[]⟩] false)
 (.seq
 (.freeze [3,4,5]
 (.region [⟨some 7,(.mkfn 53 0),[.t 3,.t 4,.t 5],none,[]⟩,
 ⟨some 6,.mov,[.t 7],none,[0,0]⟩] false))
 .ret))
def d41:DFn:=⟨3,8,[.tmp 6],b41⟩
theorem body41:d41.body=b41:=rfl
theorem res41:d41.res=[.tmp 6]:=rfl
theorem k41:chkFn Try.prog Try.f41 d41=true:=by kernel_rfl
def b53k0:DCode :=
 (.region [⟨some 29,(.bin .add),[.t 11,.c (.int .i64 1)],none,[]⟩,
 ⟨some 11,.mov,[.t 29],none,[0]⟩] false)
def b53k1:DCode :=
 (.seq
 (.block 1
 (.seq
 (.region [⟨some 13,.mov,[.t 11],none,[]⟩,
 ⟨some 5,.mov,[.t 13],none,[0,0]⟩] false)
 (.seq
 (.region [⟨some 14,(.load true 7),[.t 1],none,[]⟩,
 ⟨some 15,(.load false 1),[.t 2],none,[]⟩,
 ⟨some 16,(.load false 1),[.t 3],none,[]⟩,
 ⟨some 17,.mov,[.t 5],none,[]⟩,
 ⟨some 18,.call,[.f 54,.t 14,.t 15,.t 16,.t 17],none,[0,1,2,3]⟩,
 ⟨some 6,.mov,[.t 18],none,[4,4,0,1,2,3,4]⟩] false)
 (.seq
 (.region [⟨some 19,(.load true 7),[.t 1],none,[]⟩,
 ⟨some 20,.mov,[.t 6],none,[]⟩,
 ⟨some 21,.call,[.f 55,.t 19,.t 20],none,[0,1]⟩,
 ⟨some 22,.mov,[.t 21],none,[2,2]⟩,
 ⟨some 23,.mov,[.t 0],(some (22,true)),[3]⟩,
 ⟨some 24,.mov,[.t 5],(some (22,true)),[3]⟩,
 ⟨some 25,.mov,[.t 6],(some (22,true)),[3]⟩,
 ⟨some 26,.yield,[.t 23,.t 24,.t 25],(some (22,true)),[4,5,6,3,3]⟩,
 ⟨some 27,(.un .not),[.t 26],(some (22,true)),[7,3]⟩,
 ⟨some 28,.pick,[.t 22,.t 27,.c (.bool false)],none,[3,8]⟩] false)
 (.cond (.t 28)
 .ret
 .skip)))))
 (.keep [0,1,2,3,10,11] [0] b53k0))
def b53l0:DCode:=.keep [0,1,2,3,10,11] [0]
 (.seq
 (.region [⟨some 12,(.bin .lss),[.t 11,.t 10],none,[]⟩] false)
 (.seq
 (.cond (.t 12)
 .skip
 (.exit 0))
 (.keep [0,1,2,3,10,11] [0] b53k1)))
def b53:DCode :=
 (.seq
 (.region [⟨some 7,(.faddr 0 true 3),[.t 1],none,[]⟩,
 ⟨some 8,(.faddr 2 false 1),[.t 7],none,[0]⟩,
 ⟨some 9,(.load false 1),[.t 8],none,[1]⟩,
 ⟨some 10,.len,[.t 9],none,[2]⟩,
 ⟨some 11,.mov,[.c (.int .i64 0)],none,[]⟩] false)
 (.block 0
 (.loop b53l0)))
def d53:DFn:=⟨4,30,[],b53⟩
theorem body53:d53.body=b53:=rfl
theorem res53:d53.res=[]:=rfl
theorem k53:chkFnB Try.prog Try.f53 d53 [0] [0]=true:=by kernel_rfl
def b31k0:DCode :=
 (.seq
 (.region [⟨some 41,(.load true 7),[.t 9],none,[]⟩,
 ⟨some 42,.movv,[.t 2],none,[]⟩,
 ⟨some 43,.call,[.f 45,.t 41,.t 42],none,[0,1]⟩,
 ⟨some 40,.mov,[.t 43],none,[2]⟩,
 ⟨some 44,(.ext 0),[.t 40],none,[3]⟩,
 ⟨some 45,(.ext 1),[.t 40],none,[3]⟩,
 ⟨some 12,.movv,[.t 44],none,[4,2,0,1,2,3,4]⟩,
 ⟨some 13,.mov,[.t 45],none,[5,6,0,1,2,3,4,5,6]⟩] false)
 (.seq
 (.region [⟨some 46,(.load true 7),[.t 9],none,[]⟩,
 ⟨some 47,.movv,[.t 12],none,[]⟩,
 ⟨some 48,.mov,[.t 13],none,[]⟩,
 ⟨some 49,.call,[.f 27,.t 48,.c (.int .i64 22)],none,[2]⟩,
 ⟨none,(.store 7),[.t 6,.t 46],none,[0,3,0]⟩,
 ⟨some 7,.movv,[.t 47],none,[1,4,0,1,4]⟩,
 ⟨some 8,.mov,[.t 49],none,[3,5,0,1,2,3,4,5]⟩] true)
 .ret))
def b31:DCode :=
 (.seq
 (.region [⟨some 3,.box,[.t 0],none,[]⟩,
 ⟨some 4,.box,[.t 1],none,[]⟩,
 ⟨some 6,(.alloc [(.imm (.int .i64 0)),(.imm (.int .i64 0)),(.imm (.slc 4 [])),(.imm (.int .i64 0)),(.imm (.int .i64 0)),(.imm (.int .i64 0)),(.imm (.slc 3 []))]),[],none,[]⟩,
 ⟨some 7,.mov,[.c (.slc 1 [])],none,[]⟩,
 ⟨some 8,.mov,[.c (.int .i64 0)],none,[3]⟩] false)
 (.seq
 (.region [⟨some 15,(.load true 3),[.t 3],none,[]⟩,
 ⟨some 16,(.load true 4),[.t 4],none,[]⟩,
 ⟨some 17,.call,[.f 25,.t 15,.t 16],none,[0,1]⟩,
 ⟨some 14,.mov,[.t 17],none,[2]⟩,
 ⟨some 18,(.ext 0),[.t 14],none,[3]⟩,
 ⟨some 19,(.ext 1),[.t 14],none,[3]⟩,
 ⟨some 9,(.alloc [(.imm (.int .i64 0)),(.imm (.int .i64 0)),(.imm (.slc 4 [])),(.imm (.int .i64 0)),(.imm (.int .i64 0)),(.imm (.int .i64 0)),(.imm (.slc 3 []))]),[],none,[]⟩,
 ⟨none,(.store 7),[.t 9,.t 18],none,[6,4,2,0,1,2,3,4,6]⟩,
 ⟨some 10,.mov,[.t 19],none,[5,7,0,1,2,3,4,5,6,7]⟩] false)
 (.seq
 (.freeze [9]
 (.region [⟨some 20,.movv,[.t 2],none,[]⟩,
 ⟨some 21,(.mkfn 44 0),[.t 9],none,[]⟩,
 ⟨some 22,.call,[.f 43,.t 20,.t 21],none,[0,1]⟩,
 ⟨some 11,.mov,[.t 22],none,[2,2,0,1,2]⟩] false))
 (.seq
 (.seq
 (.region [⟨some 23,.mov,[.t 10],none,[]⟩,
 ⟨some 24,.movv,[.t 2],none,[]⟩,
 ⟨some 25,.len,[.t 24],none,[1]⟩,
 ⟨some 26,(.faddr 3 false 1),[.t 4],none,[]⟩,
 ⟨some 27,(.load false 1),[.t 26],none,[3]⟩,
 ⟨some 28,.len,[.t 27],none,[4]⟩,
 ⟨some 29,(.bin .eql),[.t 25,.t 28],none,[2,5]⟩,
 ⟨some 30,.call,[.f 27,.t 29,.c (.int .i64 10)],none,[6]⟩,
 ⟨some 31,.mov,[.t 11],none,[]⟩,
 ⟨some 32,(.un .not),[.t 31],none,[8]⟩,
 ⟨some 33,.call,[.f 27,.t 32,.c (.int .i64 6)],none,[9,7]⟩,
 ⟨some 34,(.bsl 1),[.t 23,.t 30,.t 33],none,[0,7,10]⟩,
 ⟨some 35,.call,[.f 26,.t 34],none,[11,10]⟩,
 ⟨some 10,.mov,[.t 35],none,[12,12,0,1,2,3,4,5,6,7,8,9,10,11,12]⟩] false)
 (.seq
 (.region [⟨some 36,.mov,[.t 10],none,[]⟩,
 ⟨some 37,(.bin .neq),[.t 36,.c (.int .i64 0)],none,[0]⟩] false)
 (.cond (.t 37)
 (.seq
 (.region [⟨some 38,(.load true 7),[.t 9],none,[]⟩,
 ⟨some 39,.mov,[.t 10],none,[]⟩,
 ⟨none,(.store 7),[.t 6,.t 38],none,[0,0]⟩,
 ⟨some 7,.mov,[.c (.slc 1 [])],none,[2,0,2]⟩,
 ⟨some 8,.mov,[.t 39],none,[1,3,0,1,2,3]⟩] false)
 .ret)
 .skip)))
 (.keep [2,6,9] [6,9] b31k0)))))
def d31:DFn:=⟨3,50,[.cell 6 true 7,.tmp 7,.tmp 8],b31⟩
theorem body31:d31.body=b31:=rfl
theorem res31:d31.res=[.cell 6 true 7,.tmp 7,.tmp 8]:=rfl
theorem k31:chkFn Try.prog Try.f31 d31=true:=by kernel_rfl
def b44:DCode :=
 (.seq
 (.region [⟨some 3,.mov,[.c (.bool false)],none,[]⟩] false)
 (.seq
 (.region [⟨some 4,(.load true 7),[.t 1],none,[]⟩,
 ⟨some 5,.mov,[.t 0],none,[]⟩,
 ⟨some 6,.call,[.f 28,.t 4,.t 5],none,[0,1]⟩,
 ⟨some 7,(.un .not),[.t 6],none,[2]⟩,
 ⟨some 3,.mov,[.t 7],none,[3,2,0,1,2,3]⟩] false)
 .ret))
def d44:DFn:=⟨2,8,[.tmp 3],b44⟩
theorem body44:d44.body=b44:=rfl
theorem res44:d44.res=[.tmp 3]:=rfl
theorem k44:chkFn Try.prog Try.f44 d44=true:=by kernel_rfl
def b14:DCode :=
 (.seq
 (.region [⟨some 3,.box,[.t 0],none,[]⟩,
 ⟨some 4,.box,[.t 1],none,[]⟩,
 ⟨some 6,.mov,[.c (.slc 1 [])],none,[]⟩,
 ⟨some 7,.mov,[.c (.int .i64 0)],none,[2]⟩] false)
 (.seq
 (.region [⟨some 12,(.load true 3),[.t 3],none,[]⟩,
 ⟨some 13,(.load true 4),[.t 4],none,[]⟩,
 ⟨some 14,.movv,[.t 2],none,[]⟩,
 ⟨some 15,.call,[.f 31,.t 12,.t 13,.t 14],none,[0,1,2]⟩,
 ⟨some 11,.mov,[.t 15],none,[3]⟩,
 ⟨some 16,(.ext 0),[.t 11],none,[4]⟩,
 ⟨some 17,(.ext 1),[.t 11],none,[4]⟩,
 ⟨some 18,(.ext 2),[.t 11],none,[4]⟩,
 ⟨some 8,(.alloc [(.imm (.int .i64 0)),(.imm (.int .i64 0)),(.imm (.slc 4 [])),(.imm (.int .i64 0)),(.imm (.int .i64 0)),(.imm (.int .i64 0)),(.imm (.slc 3 []))]),[],none,[]⟩,
 ⟨none,(.store 7),[.t 8,.t 16],none,[8,5,3,0,1,2,3,4,5,8]⟩,
 ⟨some 9,.movv,[.t 17],none,[6,9,0,1,2,3,4,5,6,8,9]⟩,
 ⟨some 10,.mov,[.t 18],none,[7,10,0,1,2,3,4,5,6,7,8,9,10]⟩] false)
 (.seq
 (.region [⟨some 19,.movv,[.t 9],none,[]⟩,
 ⟨some 20,.mov,[.t 10],none,[]⟩,
 ⟨some 6,.movv,[.t 19],none,[0,0]⟩,
 ⟨some 7,.mov,[.t 20],none,[1,2,0,1,2]⟩] false)
 .ret)))
def d14:DFn:=⟨3,21,[.tmp 6,.tmp 7],b14⟩
theorem body14:d14.body=b14:=rfl
theorem res14:d14.res=[.tmp 6,.tmp 7]:=rfl
theorem k14:chkFn Try.prog Try.f14 d14=true:=by kernel_rfl
def b43:DCode :=
 (.seq
 (.region [⟨some 4,.mov,[.c (.bool false)],none,[]⟩] false)
 (.seq
 (.region [⟨some 5,.movv,[.t 0],none,[]⟩,
 ⟨some 6,.mov,[.t 1],none,[]⟩,
 ⟨some 7,.call,[.f 56,.t 5,.t 6],none,[0,1]⟩,
 ⟨some 8,(.bin .geq),[.t 7,.c (.int .i64 0)],none,[2]⟩,
 ⟨some 4,.mov,[.t 8],none,[3,2,0,1,2,3]⟩] false)
 .ret))
def d43:DFn:=⟨2,9,[.tmp 4],b43⟩
theorem body43:d43.body=b43:=rfl
theorem res43:d43.res=[.tmp 4]:=rfl
theorem k43:chkFn Try.prog Try.f43 d43=true:=by kernel_rfl
def b56k0:DCode :=
 (.region [⟨some 18,(.bin .add),[.t 8,.c (.int .i64 1)],none,[]⟩,
 ⟨some 8,.mov,[.t 18],none,[0]⟩] false)
def b56k1:DCode :=
 (.seq
 (.block 1
 (.seq
 (.region [⟨some 10,.mov,[.t 8],none,[]⟩,
 ⟨some 5,.mov,[.t 10],none,[0,0]⟩] false)
 (.seq
 (.region [⟨some 11,.mov,[.t 1],none,[]⟩,
 ⟨some 12,.movv,[.t 0],none,[]⟩,
 ⟨some 13,.mov,[.t 5],none,[]⟩,
 ⟨some 14,(.iaddr 1),[.t 12,.t 13],none,[1,2]⟩,
 ⟨some 15,(.load false 1),[.t 14],none,[3]⟩,
 ⟨some 16,.call,[.t 11,.t 15],none,[0,4]⟩] false)
 (.cond (.t 16)
 (.seq
 (.region [⟨some 17,.mov,[.t 5],none,[]⟩,
 ⟨some 4,.mov,[.t 17],none,[0,0]⟩] false)
 .ret)
 .skip))))
 (.keep [0,1,7,8] [] b56k0))
def b56l0:DCode:=.keep [0,1,7,8] []
 (.seq
 (.region [⟨some 9,(.bin .lss),[.t 8,.t 7],none,[]⟩] false)
 (.seq
 (.cond (.t 9)
 .skip
 (.exit 0))
 (.keep [0,1,7,8] [] b56k1)))
def b56k2:DCode :=
 (.seq
 (.region [⟨some 4,.mov,[.c (.int .i64 (-1))],none,[]⟩] false)
 .ret)
def b56:DCode :=
 (.seq
 (.region [⟨some 4,.mov,[.c (.int .i64 0)],none,[]⟩] false)
 (.seq
 (.seq
 (.region [⟨some 6,.movv,[.t 0],none,[]⟩,
 ⟨some 7,.len,[.t 6],none,[0]⟩,
 ⟨some 8,.mov,[.c (.int .i64 0)],none,[]⟩] false)
 (.block 0
 (.loop b56l0)))
 (.keep [] [] b56k2)))
def d56:DFn:=⟨2,19,[.tmp 4],b56⟩
theorem body56:d56.body=b56:=rfl
theorem res56:d56.res=[.tmp 4]:=rfl
theorem k56:chkFn Try.prog Try.f56 d56=true:=by kernel_rfl
def b51k0:DCode :=
 (.block 1
 (.region [⟨some 38,.mov,[.t 8],none,[]⟩,
 ⟨some 39,.movv,[.t 7],none,[]⟩,
 ⟨some 40,.mov,[.t 8],none,[]⟩,
 ⟨some 41,(.slice 1 true false),[.t 39,.t 40],none,[1,2]⟩,
 ⟨some 42,.movv,[.t 7],none,[]⟩,
 ⟨some 43,.mov,[.t 8],none,[]⟩,
 ⟨some 44,(.slice 1 false true),[.t 42,.t 43],none,[4,5]⟩,
 ⟨some 45,.copy,[.t 41,.t 44],none,[3,6]⟩,
 ⟨some 46,(.bin .add),[.t 38,.t 45],none,[0,7]⟩,
 ⟨some 8,.mov,[.t 46],none,[8,7,0,1,2,3,4,5,6,7,8]⟩] true))
def b51l0:DCode:=.keep [7,8] [1000]
 (.seq
 (.seq
 (.region [⟨some 34,.mov,[.t 8],none,[]⟩,
 ⟨some 35,.movv,[.t 7],none,[]⟩,
 ⟨some 36,.len,[.t 35],none,[1]⟩,
 ⟨some 37,(.bin .lss),[.t 34,.t 36],none,[0,2]⟩] false)
 (.cond (.t 37)
 .skip
 (.exit 0)))
 (.keep [7,8] [1000] b51k0))
def b51k1:DCode :=
 (.seq
 (.region [⟨some 47,.mov,[.t 7],none,[]⟩,
 ⟨some 4,.mov,[.t 47],none,[0,0]⟩] false)
 .ret)
def b51k2:DCode :=
 (.seq
 (.region [⟨some 28,.mov,[.t 6],none,[]⟩,
 ⟨some 29,(.conv .i64),[.t 28],none,[0]⟩,
 ⟨some 30,(.mksl (.int .i64 0) 8),[.t 29,.t 29],none,[1,1]⟩,
 ⟨some 7,.mov,[.t 30],none,[2,0,1,2]⟩] false)
 (.ren 30 1000
 (.seq
 (.region [⟨some 31,.movv,[.t 7],none,[]⟩,
 ⟨some 32,.movv,[.t 0],none,[]⟩,
 ⟨some 33,.copy,[.t 31,.t 32],none,[0,1]⟩,
 ⟨some 8,.mov,[.t 33],none,[2,2,0,1,2]⟩] false)
 (.seq
 (.block 0
 (.loop b51l0))
 (.keep [7] [1000] b51k1)))))
def b51k3:DCode :=
 (.seq
 (.region [⟨some 13,.movv,[.t 0],none,[]⟩,
 ⟨some 14,.len,[.t 13],none,[0]⟩,
 ⟨some 15,(.conv .u64),[.t 14],none,[1]⟩,
 ⟨some 16,.mov,[.t 1],none,[]⟩,
 ⟨some 17,(.conv .u64),[.t 16],none,[3]⟩,
 ⟨some 18,.call,[.f 62,.t 15,.t 17],none,[2,4]⟩,
 ⟨some 12,.mov,[.t 18],none,[5]⟩,
 ⟨some 19,(.ext 0),[.t 12],none,[6]⟩,
 ⟨some 20,(.ext 1),[.t 12],none,[6]⟩,
 ⟨some 5,.mov,[.t 19],none,[7,5,0,1,2,3,4,5,6,7]⟩,
 ⟨some 6,.mov,[.t 20],none,[8,9,0,1,2,3,4,5,6,7,8,9]⟩] false)
 (.seq
 (.seq
 (.region [⟨some 21,.mov,[.t 5],none,[]⟩,
 ⟨some 22,(.bin .gtr),[.t 21,.c (.int .u64 0)],none,[0]⟩,
 ⟨some 23,.mov,[.t 22],none,[1]⟩,
 ⟨some 24,.mov,[.t 6],(some (23,false)),[2]⟩,
 ⟨some 25,(.bin .gtr),[.t 24,.c (.int .u64 9223372036854775807)],(some (23,false)),[3,2]⟩,
 ⟨some 26,.pick,[.t 23,.c (.bool true),.t 25],none,[2,4]⟩] false)
 (.cond (.t 26)
 .dead
 .skip))
 (.keep [0,6] [] b51k2)))
def b51:DCode :=
 (.seq
 (.region [⟨some 4,.mov,[.z 1],none,[]⟩] false)
 (.seq
 (.seq
 (.region [⟨some 9,.mov,[.t 1],none,[]⟩,
 ⟨some 10,(.bin .lss),[.t 9,.c (.int .i64 0)],none,[0]⟩] false)
 (.cond (.t 10)
 .dead
 .skip))
 (.keep [0,1] [] b51k3)))
def d51:DFn:=⟨2,48,[.tmp 4],b51⟩
theorem body51:d51.body=b51:=rfl
theorem res51:d51.res=[.tmp 4]:=rfl
theorem k51:chkFnB Try.prog Try.f51 d51 [] [1000]=true:=by kernel_rfl
def b62k0:DCode :=
 (.seq
 (.region [⟨some 23,.mov,[.t 0],none,[]⟩,
 ⟨some 24,.mov,[.t 1],none,[]⟩,
 ⟨some 25,.call,[.f 68,.t 23,.t 24],none,[0,1]⟩,
 ⟨some 22,.mov,[.t 25],none,[2]⟩,
 ⟨some 26,(.ext 0),[.t 22],none,[3]⟩,
 ⟨some 27,(.ext 1),[.t 22],none,[3]⟩,
 ⟨some 8,.mov,[.t 26],none,[4,2,0,1,2,3,4]⟩,
 ⟨some 9,.mov,[.t 27],none,[5,6,0,1,2,3,4,5,6]⟩] false)
 (.seq
 (.region [⟨some 28,.mov,[.t 8],none,[]⟩,
 ⟨some 29,.mov,[.t 9],none,[]⟩,
 ⟨some 4,.mov,[.t 28],none,[0,0]⟩,
 ⟨some 5,.mov,[.t 29],none,[1,2,0,1,2]⟩] false)
 .ret))
def b62:DCode :=
 (.seq
 (.region [⟨some 4,.mov,[.c (.int .u64 0)],none,[]⟩,
 ⟨some 5,.mov,[.c (.int .u64 0)],none,[0]⟩] false)
 (.seq
 (.cond (.c (.bool false))
 (.seq
 (.region [⟨some 11,.mov,[.t 0],none,[]⟩,
 ⟨some 12,(.conv .u32),[.t 11],none,[0]⟩,
 ⟨some 13,.mov,[.t 1],none,[]⟩,
 ⟨some 14,(.conv .u32),[.t 13],none,[2]⟩,
 ⟨some 15,.call,[.f 67,.t 12,.t 14],none,[1,3]⟩,
 ⟨some 10,.mov,[.t 15],none,[4]⟩,
 ⟨some 16,(.ext 0),[.t 10],none,[5]⟩,
 ⟨some 17,(.ext 1),[.t 10],none,[5]⟩,
 ⟨some 6,.mov,[.t 16],none,[6,4,0,1,2,3,4,5,6]⟩,
 ⟨some 7,.mov,[.t 17],none,[7,8,0,1,2,3,4,5,6,7,8]⟩] false)
 (.seq
 (.region [⟨some 18,.mov,[.t 6],none,[]⟩,
 ⟨some 19,(.conv .u64),[.t 18],none,[0]⟩,
 ⟨some 20,.mov,[.t 7],none,[]⟩,
 ⟨some 21,(.conv .u64),[.t 20],none,[2]⟩,
 ⟨some 4,.mov,[.t 19],none,[1,0,1]⟩,
 ⟨some 5,.mov,[.t 21],none,[3,4,0,1,2,3,4]⟩] false)
 .ret))
 .skip)
 (.keep [0,1] [] b62k0)))
def d62:DFn:=⟨2,30,[.tmp 4,.tmp 5],b62⟩
theorem body62:d62.body=b62:=rfl
theorem res62:d62.res=[.tmp 4,.tmp 5]:=rfl
theorem k62:chkFn Try.prog Try.f62 d62=true:=by kernel_rfl
def b68:DCode :=
 (.seq
 (.region [⟨some 4,.mov,[.c (.int .u64 0)],none,[]⟩,
 ⟨some 5,.mov,[.c (.int .u64 0)],none,[0]⟩] false)
 (.seq
 (.region [⟨some 14,.mov,[.t 0],none,[]⟩,
 ⟨some 15,(.px (.bit .and)),[.t 14,.c (.int .u64 4294967295)],none,[0]⟩,
 ⟨some 6,.mov,[.t 15],none,[1,0,1]⟩] false)
 (.seq
 (.region [⟨some 16,.mov,[.t 0],none,[]⟩,
 ⟨some 17,(.px (.sh .shr)),[.t 16,.c (.int .u64 32)],none,[0]⟩,
 ⟨some 7,.mov,[.t 17],none,[1,0,1]⟩] false)
 (.seq
 (.region [⟨some 18,.mov,[.t 1],none,[]⟩,
 ⟨some 19,(.px (.bit .and)),[.t 18,.c (.int .u64 4294967295)],none,[0]⟩,
 ⟨some 8,.mov,[.t 19],none,[1,0,1]⟩] false)
 (.seq
 (.region [⟨some 20,.mov,[.t 1],none,[]⟩,
 ⟨some 21,(.px (.sh .shr)),[.t 20,.c (.int .u64 32)],none,[0]⟩,
 ⟨some 9,.mov,[.t 21],none,[1,0,1]⟩] false)
 (.seq
 (.region [⟨some 22,.mov,[.t 6],none,[]⟩,
 ⟨some 23,.mov,[.t 8],none,[]⟩,
 ⟨some 24,(.bin .mul),[.t 22,.t 23],none,[0,1]⟩,
 ⟨some 10,.mov,[.t 24],none,[2,0,1,2]⟩] false)
 (.seq
 (.region [⟨some 25,.mov,[.t 7],none,[]⟩,
 ⟨some 26,.mov,[.t 8],none,[]⟩,
 ⟨some 27,(.bin .mul),[.t 25,.t 26],none,[0,1]⟩,
 ⟨some 28,.mov,[.t 10],none,[]⟩,
 ⟨some 29,(.px (.sh .shr)),[.t 28,.c (.int .u64 32)],none,[3]⟩,
 ⟨some 30,(.bin .add),[.t 27,.t 29],none,[2,4]⟩,
 ⟨some 11,.mov,[.t 30],none,[5,0,1,2,3,4,5]⟩] false)
 (.seq
 (.region [⟨some 31,.mov,[.t 11],none,[]⟩,
 ⟨some 32,(.px (.bit .and)),[.t 31,.c (.int .u64 4294967295)],none,[0]⟩,
 ⟨some 12,.mov,[.t 32],none,[1,0,1]⟩] false)
 (.seq
 (.region [⟨some 33,.mov,[.t 11],none,[]⟩,
 ⟨some 34,(.px (.sh .shr)),[.t 33,.c (.int .u64 32)],none,[0]⟩,
 ⟨some 13,.mov,[.t 34],none,[1,0,1]⟩] false)
 (.seq
 (.region [⟨some 35,.mov,[.t 12],none,[]⟩,
 ⟨some 36,.mov,[.t 6],none,[]⟩,
 ⟨some 37,.mov,[.t 9],none,[]⟩,
 ⟨some 38,(.bin .mul),[.t 36,.t 37],none,[1,2]⟩,
 ⟨some 39,(.bin .add),[.t 35,.t 38],none,[0,3]⟩,
 ⟨some 12,.mov,[.t 39],none,[4,0,1,2,3,4]⟩] false)
 (.seq
 (.region [⟨some 40,.mov,[.t 7],none,[]⟩,
 ⟨some 41,.mov,[.t 9],none,[]⟩,
 ⟨some 42,(.bin .mul),[.t 40,.t 41],none,[0,1]⟩,
 ⟨some 43,.mov,[.t 13],none,[]⟩,
 ⟨some 44,(.bin .add),[.t 42,.t 43],none,[2,3]⟩,
 ⟨some 45,.mov,[.t 12],none,[]⟩,
 ⟨some 46,(.px (.sh .shr)),[.t 45,.c (.int .u64 32)],none,[5]⟩,
 ⟨some 47,(.bin .add),[.t 44,.t 46],none,[4,6]⟩,
 ⟨some 4,.mov,[.t 47],none,[7,0,1,2,3,4,5,6,7]⟩] false)
 (.seq
 (.region [⟨some 48,.mov,[.t 0],none,[]⟩,
 ⟨some 49,.mov,[.t 1],none,[]⟩,
 ⟨some 50,(.bin .mul),[.t 48,.t 49],none,[0,1]⟩,
 ⟨some 5,.mov,[.t 50],none,[2,0,1,2]⟩] false)
 .ret))))))))))))
def d68:DFn:=⟨2,51,[.tmp 4,.tmp 5],b68⟩
theorem body68:d68.body=b68:=rfl
theorem res68:d68.res=[.tmp 4,.tmp 5]:=rfl
theorem k68:chkFn Try.prog Try.f68 d68=true:=by kernel_rfl
def b38a0:DCode :=
 (.seq
 (.region [⟨some 12,.mov,[.t 89],none,[]⟩] false)
 (.region [⟨some 13,.mov,[.t 90],none,[]⟩] false))
def b38r0:DCode :=
 (.block 7
 (.region [⟨some 91,(.load false 1),[.t 11],none,[]⟩,
 ⟨some 92,(.load false 1),[.t 11],none,[]⟩,
 ⟨some 93,.nilck,[.t 92],none,[1]⟩,
 ⟨some 94,(.load false 1),[.t 93],none,[2]⟩,
 ⟨some 95,(.load true 7),[.t 2],none,[]⟩,
 ⟨some 96,(.load false 1),[.t 8],none,[]⟩,
 ⟨some 97,(.load false 1),[.t 10],none,[]⟩,
 ⟨some 98,.mov,[.t 12],none,[]⟩,
 ⟨some 99,.call,[.f 42,.t 95,.t 96,.t 97,.t 98],none,[4,5,6,7]⟩,
 ⟨some 100,(.load false 1),[.t 7],none,[]⟩,
 ⟨some 101,(.load false 1),[.t 8],none,[]⟩,
 ⟨some 102,(.bin .add),[.t 101,.c (.int .i64 1)],none,[10]⟩,
 ⟨some 103,(.iaddr 1),[.t 100,.t 102],none,[9,11]⟩,
 ⟨some 104,(.load false 1),[.t 103],none,[12]⟩,
 ⟨some 105,(.load true 7),[.t 2],none,[]⟩,
 ⟨some 106,.mov,[.t 13],none,[]⟩,
 ⟨some 107,.mov,[.t 12],none,[]⟩,
 ⟨some 108,.call,[.f 39,.t 105,.t 106,.t 107],none,[14,15,16,8]⟩,
 ⟨some 109,(.iaddr 1),[.t 104,.t 108],none,[13,17]⟩,
 ⟨some 110,(.load false 1),[.t 109],none,[18]⟩,
 ⟨some 111,(.bin .add),[.t 99,.t 110],none,[8,19]⟩,
 ⟨some 112,(.mm true),[.t 94,.t 111],none,[3,20]⟩,
 ⟨some 113,.nilck,[.t 91],none,[0,0,1,2,3,4,5,6,7,8,9,10,11,12,13,14,15,16,17,18,19,20,21]⟩,
 ⟨none,(.store 1),[.t 113,.t 112],none,[22,21,17,0,1,2,3,4,5,6,7,8,9,10,11,12,13,14,15,16,17,18,19,20,21]⟩] true))
def b38k0:DCode :=
 (.seq
 (.region [⟨some 85,(.load true 7),[.t 2],none,[]⟩,
 ⟨some 86,.mov,[.t 9],none,[]⟩,
 ⟨some 87,(.load false 1),[.t 8],none,[]⟩,
 ⟨some 88,.call,[.f 41,.t 85,.t 86,.t 87],none,[0,1,2]⟩] false)
 (.block 6
 (.rangeF (.t 88) [89,90] [2,3,5,6,7,8,9,10,11,56,57] [2,3,7,8,10,11] [] [2,3,7,8,10,11,31,1000] b38a0 b38r0)))
def b38k1:DCode :=
 (.seq
 (.seq
 (.region [⟨some 79,(.load true 7),[.t 2],none,[]⟩,
 ⟨some 80,.mov,[.t 9],none,[]⟩,
 ⟨some 81,(.load false 1),[.t 8],none,[]⟩,
 ⟨some 82,(.load true 2),[.t 3],none,[]⟩,
 ⟨some 83,.call,[.f 52,.t 79,.t 80,.t 81,.t 82],none,[0,1,2,3]⟩,
 ⟨some 84,(.un .not),[.t 83],none,[4]⟩] false)
 (.cond (.t 84)
 (.exit 5)
 .skip))
 (.keep [2,3,5,6,7,8,9,10,11,56,57] [2,3,7,8,10,11,31,1000] b38k0))
def b38k2:DCode :=
 (.region [⟨some 114,(.bin .add),[.t 57,.c (.int .i64 1)],none,[]⟩,
 ⟨some 57,.mov,[.t 114],none,[0]⟩] false)
def b38k3:DCode :=
 (.seq
 (.block 5
 (.seq
 (.region [⟨some 59,.mov,[.t 57],none,[]⟩,
 ⟨some 10,(.alloc [(.imm (.int .i64 0))]),[],none,[]⟩,
 ⟨none,(.store 1),[.t 10,.t 59],none,[1,0,0,1]⟩] false)
 (.seq
 (.region [⟨some 60,(.load false 1),[.t 7],none,[]⟩,
 ⟨some 61,(.load false 1),[.t 8],none,[]⟩,
 ⟨some 62,(.iaddr 1),[.t 60,.t 61],none,[0,1]⟩,
 ⟨some 63,(.load false 1),[.t 62],none,[2]⟩,
 ⟨some 64,(.load true 7),[.t 2],none,[]⟩,
 ⟨some 65,.mov,[.t 9],none,[]⟩,
 ⟨some 66,(.load false 1),[.t 10],none,[]⟩,
 ⟨some 67,.call,[.f 39,.t 64,.t 65,.t 66],none,[4,5,6]⟩,
 ⟨some 68,(.iaddr 1),[.t 63,.t 67],none,[3,7]⟩,
 ⟨some 11,(.alloc [(.imm .nilp)]),[],none,[]⟩,
 ⟨none,(.store 1),[.t 11,.t 68],none,[9,8,7,0,1,2,3,4,5,6,7,8,9]⟩] true)
 (.seq
 (.seq
 (.region [⟨some 69,(.load false 1),[.t 8],none,[]⟩,
 ⟨some 70,.mov,[.t 5],none,[]⟩,
 ⟨some 71,(.bin .eql),[.t 69,.t 70],none,[0,1]⟩] false)
 (.cond (.t 71)
 (.seq
 (.region [⟨some 72,(.load false 1),[.t 11],none,[]⟩,
 ⟨some 73,(.faddr 3 true 4),[.t 2],none,[]⟩,
 ⟨some 74,(.faddr 2 false 1),[.t 73],none,[1]⟩,
 ⟨some 75,(.load false 1),[.t 74],none,[2]⟩,
 ⟨some 76,.mov,[.t 9],none,[]⟩,
 ⟨some 77,(.bin .mul),[.t 75,.t 76],none,[3,4]⟩,
 ⟨some 78,.nilck,[.t 72],none,[0,0,1,2,3,4,5]⟩,
 ⟨none,(.store 1),[.t 78,.t 77],none,[6,5,0,1,2,3,4,5]⟩] false)
 (.exit 5))
 .skip))
 (.keep [2,3,5,6,7,8,9,10,11,56,57] [2,3,7,8,10,11,31,1000] b38k1)))))
 (.keep [2,3,5,6,7,8,9,56,57] [2,3,7,8,31,1000] b38k2))
def b38l1:DCode:=.keep [2,3,5,6,7,8,9,56,57] [2,3,7,8,31,1000]
 (.seq
 (.region [⟨some 58,(.bin .lss),[.t 57,.t 56],none,[]⟩] false)
 (.seq
 (.cond (.t 58)
 .skip
 (.exit 4))
 (.keep [2,3,5,6,7,8,9,56,57] [2,3,7,8,31,1000] b38k3)))
def b38k4:DCode :=
 (.region [⟨some 51,.mov,[.t 9],none,[]⟩,
 ⟨some 52,(.bin .add),[.t 51,.c (.int .i64 1)],none,[0]⟩,
 ⟨some 9,.mov,[.t 52],none,[1,0,1]⟩] false)
def b38k5:DCode :=
 (.seq
 (.block 3
 (.seq
 (.region [⟨some 53,(.faddr 0 true 3),[.t 2],none,[]⟩,
 ⟨some 54,(.faddr 2 false 1),[.t 53],none,[0]⟩,
 ⟨some 55,(.load false 1),[.t 54],none,[1]⟩,
 ⟨some 56,.len,[.t 55],none,[2]⟩,
 ⟨some 57,.mov,[.c (.int .i64 0)],none,[]⟩] false)
 (.block 4
 (.loop b38l1))))
 (.keep [2,3,5,6,7,8,9] [2,3,7,8,31,1000] b38k4))
def b38l2:DCode:=.keep [2,3,5,6,7,8,9] [2,3,7,8,31,1000]
 (.seq
 (.seq
 (.region [⟨some 46,.mov,[.t 9],none,[]⟩,
 ⟨some 47,(.faddr 0 true 3),[.t 2],none,[]⟩,
 ⟨some 48,(.faddr 1 false 1),[.t 47],none,[1]⟩,
 ⟨some 49,(.load false 1),[.t 48],none,[2]⟩,
 ⟨some 50,(.bin .leq),[.t 46,.t 49],none,[0,3]⟩] false)
 (.cond (.t 50)
 .skip
 (.exit 2)))
 (.keep [2,3,5,6,7,8,9] [2,3,7,8,31,1000] b38k5))
def b38k6:DCode :=
 (.region [⟨some 8,(.alloc [(.imm (.int .i64 0))]),[],none,[]⟩,
 ⟨none,(.store 1),[.t 8,.t 115],none,[0,0]⟩] false)
def b38k7:DCode :=
 (.seq
 (.seq
 (.settle [1000]
 (.region [⟨some 115,(.load false 1),[.t 8],none,[]⟩] false))
 (.keep [2,3,5,6,7,115] [2,3,7,31,1000] b38k6))
 (.region [⟨some 35,(.load false 1),[.t 8],none,[]⟩,
 ⟨some 36,(.bin .sub),[.t 35,.c (.int .i64 1)],none,[0]⟩,
 ⟨none,(.store 1),[.t 8,.t 36],none,[1,0,1]⟩] false))
def b38k8:DCode :=
 (.seq
 (.block 1
 (.seq
 (.region [⟨some 37,(.load false 1),[.t 7],none,[]⟩,
 ⟨some 38,(.load false 1),[.t 8],none,[]⟩,
 ⟨some 39,(.bsl 1),[.c (.int .i64 (-100000000000))],none,[]⟩,
 ⟨some 40,.mov,[.t 6],none,[]⟩,
 ⟨some 41,(.callb []),[.f 51,.t 39,.t 40],none,[2,3]⟩,
 ⟨some 42,(.iaddr 1),[.t 37,.t 38],none,[0,1,0,1,2,3,4]⟩,
 ⟨none,(.store 1),[.t 42,.t 41],none,[5,4,4,0,1,2,3,4]⟩] true)
 (.seq
 (.region [⟨some 43,(.faddr 0 true 3),[.t 2],none,[]⟩,
 ⟨some 44,(.faddr 0 false 1),[.t 43],none,[0]⟩,
 ⟨some 45,(.load false 1),[.t 44],none,[1]⟩,
 ⟨some 9,.mov,[.t 45],none,[2,0,1,2]⟩] false)
 (.block 2
 (.loop b38l2)))))
 (.keep [2,3,5,6,7,8] [2,3,7,8,31,1000] b38k7))
def b38l3:DCode:=.keep [2,3,5,6,7,8] [2,3,7,8,31,1000]
 (.seq
 (.seq
 (.region [⟨some 33,(.load false 1),[.t 8],none,[]⟩,
 ⟨some 34,(.bin .geq),[.t 33,.c (.int .i64 0)],none,[0]⟩] false)
 (.cond (.t 34)
 .skip
 (.exit 0)))
 (.keep [2,3,5,6,7,8] [2,3,7,8,31,1000] b38k8))
def b38k9:DCode :=
 (.seq
 (.region [⟨some 116,(.load false 1),[.t 7],none,[]⟩,
 ⟨some 4,.movv,[.t 116],none,[0,0]⟩] false)
 (.freeze [31,1000]
 .ret))
def b38:DCode :=
 (.seq
 (.region [⟨some 2,.box,[.t 0],none,[]⟩,
 ⟨some 3,.box,[.t 1],none,[]⟩,
 ⟨some 4,.mov,[.c (.slc 1 [])],none,[]⟩] false)
 (.seq
 (.region [⟨some 14,(.faddr 3 true 4),[.t 2],none,[]⟩,
 ⟨some 15,(.faddr 3 false 1),[.t 14],none,[0]⟩,
 ⟨some 16,(.load false 1),[.t 15],none,[1]⟩,
 ⟨some 17,.len,[.t 16],none,[2]⟩,
 ⟨some 18,(.load true 7),[.t 2],none,[]⟩,
 ⟨some 19,(.faddr 0 true 3),[.t 2],none,[]⟩,
 ⟨some 20,(.faddr 1 false 1),[.t 19],none,[5]⟩,
 ⟨some 21,(.load false 1),[.t 20],none,[6]⟩,
 ⟨some 22,(.faddr 0 true 3),[.t 2],none,[]⟩,
 ⟨some 23,(.faddr 2 false 1),[.t 22],none,[8]⟩,
 ⟨some 24,(.load false 1),[.t 23],none,[9]⟩,
 ⟨some 25,.len,[.t 24],none,[10]⟩,
 ⟨some 26,(.bin .sub),[.t 25,.c (.int .i64 1)],none,[11]⟩,
 ⟨some 27,.call,[.f 39,.t 18,.t 21,.t 26],none,[4,7,12]⟩,
 ⟨some 28,(.bin .add),[.t 27,.c (.int .i64 1)],none,[13]⟩,
 ⟨some 5,.mov,[.t 17],none,[3,13,0,1,2,3]⟩,
 ⟨some 6,.mov,[.t 28],none,[14,15,0,1,2,3,4,5,6,7,8,9,10,11,12,13,14,15]⟩] true)
 (.seq
 (.region [⟨some 29,.mov,[.t 5],none,[]⟩,
 ⟨some 30,(.bin .add),[.t 29,.c (.int .i64 1)],none,[0]⟩,
 ⟨some 31,(.mkslb (.slc 1 []) 24),[.t 30,.t 30],none,[1,1]⟩,
 ⟨some 7,(.alloc [(.imm (.slc 1 []))]),[],none,[]⟩,
 ⟨none,(.store 1),[.t 7,.t 31],none,[3,2,0,1,2,3]⟩] false)
 (.seq
 (.seq
 (.keep [2,3,5,6,7] [2,3,7,31,1000]
 (.region [⟨some 32,.mov,[.t 5],none,[]⟩,
 ⟨some 8,(.alloc [(.imm (.int .i64 0))]),[],none,[]⟩,
 ⟨none,(.store 1),[.t 8,.t 32],none,[1,0,0,1]⟩] false))
 (.block 0
 (.loop b38l3)))
 (.keep [7] [7,31,1000] b38k9)))))
def d38:DFn:=⟨2,117,[.tmp 4],b38⟩
theorem body38:d38.body=b38:=rfl
theorem res38:d38.res=[.tmp 4]:=rfl
theorem k38:chkFn Try.prog Try.f38 d38=true:=by kernel_rfl
def b30a0:DCode :=
 (.seq
 (.region [⟨some 14,.mov,[.t 62],none,[]⟩] false)
 (.region [⟨some 15,.mov,[.t 63],none,[]⟩] false))
def b30r0:DCode :=
 (.block 3
 (.seq
 (.region [⟨some 64,(.load true 7),[.t 2],none,[]⟩,
 ⟨some 65,(.load false 1),[.t 12],none,[]⟩,
 ⟨some 66,(.load false 1),[.t 11],none,[]⟩,
 ⟨some 67,.mov,[.t 14],none,[]⟩,
 ⟨some 68,.call,[.f 42,.t 64,.t 65,.t 66,.t 67],none,[0,1,2,3]⟩,
 ⟨some 69,(.load false 1),[.t 7],none,[]⟩,
 ⟨some 70,(.load false 1),[.t 12],none,[]⟩,
 ⟨some 71,(.bin .add),[.t 70,.c (.int .i64 1)],none,[6]⟩,
 ⟨some 72,(.iaddr 1),[.t 69,.t 71],none,[5,7]⟩,
 ⟨some 73,(.load false 1),[.t 72],none,[8]⟩,
 ⟨some 74,(.load true 7),[.t 2],none,[]⟩,
 ⟨some 75,.mov,[.t 15],none,[]⟩,
 ⟨some 76,.mov,[.t 14],none,[]⟩,
 ⟨some 77,.call,[.f 39,.t 74,.t 75,.t 76],none,[10,11,12,4]⟩,
 ⟨some 78,(.iaddr 1),[.t 73,.t 77],none,[9,13]⟩,
 ⟨some 79,(.load false 1),[.t 78],none,[14]⟩,
 ⟨some 80,(.bin .add),[.t 68,.t 79],none,[4,15]⟩,
 ⟨some 81,(.load false 1),[.t 13],none,[]⟩,
 ⟨some 82,(.bin .eql),[.t 80,.t 81],none,[16,17]⟩] true)
 (.cond (.t 82)
 (.seq
 (.region [⟨some 83,(.load false 1),[.t 9],none,[]⟩,
 ⟨some 84,.mov,[.t 14],none,[]⟩,
 ⟨some 85,(.bsl 1),[.t 84],none,[1]⟩,
 ⟨some 86,(.append 1 8 false),[.t 83,.t 85],none,[0,2]⟩,
 ⟨some 87,.mov,[.t 15],none,[]⟩,
 ⟨some 88,.mov,[.t 14],none,[]⟩,
 ⟨none,(.store 1),[.t 9,.t 86],none,[3,3,0,1,2,3]⟩,
 ⟨none,(.store 1),[.t 10,.t 87],none,[4,6,0,1,2,3,4,6]⟩,
 ⟨none,(.store 1),[.t 11,.t 88],none,[5,7,0,1,2,3,4,5,6,7]⟩] false)
 (.exit 2))
 .skip)))
def b30k0:DCode :=
 (.region [⟨some 89,(.bin .add),[.t 45,.c (.int .i64 1)],none,[]⟩,
 ⟨some 45,.mov,[.t 89],none,[0]⟩] false)
def b30k1:DCode :=
 (.seq
 (.block 1
 (.seq
 (.region [⟨some 47,.mov,[.t 45],none,[]⟩,
 ⟨some 12,(.alloc [(.imm (.int .i64 0))]),[],none,[]⟩,
 ⟨none,(.store 1),[.t 12,.t 47],none,[1,0,0,1]⟩] false)
 (.seq
 (.region [⟨some 48,(.load false 1),[.t 7],none,[]⟩,
 ⟨some 49,(.load false 1),[.t 12],none,[]⟩,
 ⟨some 50,(.iaddr 1),[.t 48,.t 49],none,[0,1]⟩,
 ⟨some 51,(.load false 1),[.t 50],none,[2]⟩,
 ⟨some 52,(.load true 7),[.t 2],none,[]⟩,
 ⟨some 53,(.load false 1),[.t 10],none,[]⟩,
 ⟨some 54,(.load false 1),[.t 11],none,[]⟩,
 ⟨some 55,.call,[.f 39,.t 52,.t 53,.t 54],none,[4,5,6]⟩,
 ⟨some 56,(.iaddr 1),[.t 51,.t 55],none,[3,7]⟩,
 ⟨some 57,(.load false 1),[.t 56],none,[8]⟩,
 ⟨some 13,(.alloc [(.imm (.int .i64 0))]),[],none,[]⟩,
 ⟨none,(.store 1),[.t 13,.t 57],none,[10,9,7,0,1,2,3,4,5,6,7,8,9,10]⟩] true)
 (.seq
 (.region [⟨some 58,(.load true 7),[.t 2],none,[]⟩,
 ⟨some 59,(.load false 1),[.t 10],none,[]⟩,
 ⟨some 60,(.load false 1),[.t 12],none,[]⟩,
 ⟨some 61,.call,[.f 41,.t 58,.t 59,.t 60],none,[0,1,2]⟩] false)
 (.block 2
 (.rangeF (.t 61) [62,63] [2,7,8,9,10,11,12,13,44,45] [2,7,9,10,11,12,13] [] [2,7,9,10,11,12,13,86,1009] b30a0 b30r0))))))
 (.keep [2,7,8,9,10,11,44,45] [2,7,9,10,11,86,1009] b30k0))
def b30l1:DCode:=.keep [2,7,8,9,10,11,44,45] [2,7,9,10,11,86,1009]
 (.seq
 (.region [⟨some 46,(.bin .lss),[.t 45,.t 44],none,[]⟩] false)
 (.seq
 (.cond (.t 46)
 .skip
 (.exit 0))
 (.keep [2,7,8,9,10,11,44,45] [2,7,9,10,11,86,1009] b30k1)))
def b30k2:DCode :=
 (.seq
 (.region [⟨some 90,(.load false 1),[.t 9],none,[]⟩,
 ⟨some 91,.mov,[.t 8],none,[]⟩,
 ⟨some 4,.movv,[.t 90],none,[0,0]⟩,
 ⟨some 5,.mov,[.t 91],none,[1,2,0,1,2]⟩,
 ⟨some 6,.mov,[.c (.bool true)],none,[3,0,1,2,3]⟩] false)
 .ret)
def b30k3:DCode :=
 (.seq
 (.region [⟨some 9,(.alloc [(.cap0 1 [])]),[],none,[]⟩] false)
 (.mktok 9 0 1009 1
 (.seq
 (.region [⟨some 35,(.faddr 3 true 4),[.t 2],none,[]⟩,
 ⟨some 36,(.faddr 0 false 1),[.t 35],none,[0]⟩,
 ⟨some 37,(.loadf false 1 [2]),[.t 36],none,[1]⟩,
 ⟨some 38,(.faddr 3 true 4),[.t 2],none,[]⟩,
 ⟨some 39,(.faddr 1 false 1),[.t 38],none,[3]⟩,
 ⟨some 40,(.loadf false 1 [2]),[.t 39],none,[4]⟩,
 ⟨some 10,(.alloc [(.imm (.int .i64 0))]),[],none,[]⟩,
 ⟨some 11,(.alloc [(.imm (.int .i64 0))]),[],none,[]⟩,
 ⟨none,(.storef 1 [10]),[.t 10,.t 37],none,[6,2,0,1,2,6,7]⟩,
 ⟨none,(.storef 1 [11]),[.t 11,.t 40],none,[7,5,8,0,1,2,3,4,5,6,7,8]⟩] true)
 (.seq
 (.seq
 (.region [⟨some 41,(.faddr 3 true 4),[.t 2],none,[]⟩,
 ⟨some 42,(.faddr 3 false 1),[.t 41],none,[0]⟩,
 ⟨some 43,(.load false 1),[.t 42],none,[1]⟩,
 ⟨some 44,.len,[.t 43],none,[2]⟩,
 ⟨some 45,.mov,[.c (.int .i64 0)],none,[]⟩] false)
 (.block 0
 (.loop b30l1)))
 (.keep [8,9] [9,86,1009] b30k2)))))
def b30:DCode :=
 (.seq
 (.region [⟨some 2,.box,[.t 0],none,[]⟩,
 ⟨some 3,.box,[.t 1],none,[]⟩,
 ⟨some 4,.mov,[.c (.slc 1 [])],none,[]⟩,
 ⟨some 5,.mov,[.c (.int .i64 0)],none,[2]⟩,
 ⟨some 6,.mov,[.c (.bool false)],none,[3]⟩] false)
 (.seq
 (.region [⟨some 16,(.load true 7),[.t 2],none,[]⟩,
 ⟨some 17,(.load true 2),[.t 3],none,[]⟩,
 ⟨some 18,.call,[.f 38,.t 16,.t 17],none,[0,1]⟩,
 ⟨some 7,(.alloc [(.imm (.slc 1 []))]),[],none,[]⟩,
 ⟨none,(.store 1),[.t 7,.t 18],none,[3,2,2,0,1,2,3]⟩] false)
 (.seq
 (.region [⟨some 19,(.load false 1),[.t 7],none,[]⟩,
 ⟨some 20,(.iaddr 1),[.t 19,.c (.int .i64 0)],none,[0]⟩,
 ⟨some 21,(.load false 1),[.t 20],none,[1]⟩,
 ⟨some 22,(.load true 7),[.t 2],none,[]⟩,
 ⟨some 23,(.faddr 3 true 4),[.t 2],none,[]⟩,
 ⟨some 24,(.faddr 0 false 1),[.t 23],none,[4]⟩,
 ⟨some 25,(.load false 1),[.t 24],none,[5]⟩,
 ⟨some 26,(.faddr 3 true 4),[.t 2],none,[]⟩,
 ⟨some 27,(.faddr 1 false 1),[.t 26],none,[7]⟩,
 ⟨some 28,(.load false 1),[.t 27],none,[8]⟩,
 ⟨some 29,.call,[.f 39,.t 22,.t 25,.t 28],none,[3,6,9]⟩,
 ⟨some 30,(.iaddr 1),[.t 21,.t 29],none,[2,10]⟩,
 ⟨some 31,(.load false 1),[.t 30],none,[11]⟩,
 ⟨some 8,.mov,[.t 31],none,[12,10,0,1,2,3,4,5,6,7,8,9,10,11,12]⟩] true)
 (.seq
 (.seq
 (.region [⟨some 32,.mov,[.t 8],none,[]⟩,
 ⟨some 33,.call,[.f 40,.t 32],none,[0]⟩,
 ⟨some 34,(.un .not),[.t 33],none,[1]⟩] false)
 (.cond (.t 34)
 (.seq
 (.region [⟨some 4,.mov,[.c (.slc 1 [])],none,[]⟩,
 ⟨some 5,.mov,[.c (.int .i64 0)],none,[0,0]⟩,
 ⟨some 6,.mov,[.c (.bool false)],none,[1,0,1]⟩] false)
 .ret)
 .skip))
 (.keep [2,7,8] [2,7] b30k3)))))
def d30:DFn:=⟨2,92,[.tmp 4,.tmp 5,.tmp 6],b30⟩
theorem body30:d30.body=b30:=rfl
theorem res30:d30.res=[.tmp 4,.tmp 5,.tmp 6]:=rfl
theorem k30:chkFn Try.prog Try.f30 d30=true:=by kernel_rfl
def b13k0:DCode :=
 (.seq
 (.region [⟨some 22,(.load true 7),[.t 7],none,[]⟩,
 ⟨some 23,(.build [(.imm (.int .i64 0)),(.imm (.int .i64 0))] [(0,1)]),[.c (.int .i64 (-1))],none,[]⟩,
 ⟨some 24,.call,[.f 30,.t 22,.t 23],none,[0,1]⟩,
 ⟨some 21,.mov,[.t 24],none,[2]⟩,
 ⟨some 25,(.ext 0),[.t 21],none,[3]⟩,
 ⟨some 26,(.ext 1),[.t 21],none,[3]⟩,
 ⟨some 27,(.ext 2),[.t 21],none,[3]⟩,
 ⟨some 9,.movv,[.t 25],none,[4,2,0,1,2,3,4]⟩,
 ⟨some 10,.mov,[.t 26],none,[5,7,0,1,2,3,4,5,7]⟩,
 ⟨some 11,.mov,[.t 27],none,[6,8,0,1,2,3,4,5,6,7,8]⟩] false)
 (.seq
 (.region [⟨some 28,.movv,[.t 9],none,[]⟩,
 ⟨some 29,.mov,[.t 10],none,[]⟩,
 ⟨some 30,.mov,[.t 11],none,[]⟩,
 ⟨some 31,.call,[.f 27,.t 30,.c (.int .i64 12)],none,[2]⟩,
 ⟨some 4,.movv,[.t 28],none,[0,3,0]⟩,
 ⟨some 5,.mov,[.t 29],none,[1,4,0,1,4]⟩,
 ⟨some 6,.mov,[.t 31],none,[3,5,0,1,2,3,4,5]⟩] false)
 .ret))
def b13:DCode :=
 (.seq
 (.region [⟨some 2,.box,[.t 0],none,[]⟩,
 ⟨some 3,.box,[.t 1],none,[]⟩,
 ⟨some 4,.mov,[.c (.slc 1 [])],none,[]⟩,
 ⟨some 5,.mov,[.c (.int .i64 0)],none,[2]⟩,
 ⟨some 6,.mov,[.c (.int .i64 0)],none,[3]⟩] false)
 (.seq
 (.region [⟨some 13,(.load true 3),[.t 2],none,[]⟩,
 ⟨some 14,(.load true 4),[.t 3],none,[]⟩,
 ⟨some 15,.call,[.f 25,.t 13,.t 14],none,[0,1]⟩,
 ⟨some 12,.mov,[.t 15],none,[2]⟩,
 ⟨some 16,(.ext 0),[.t 12],none,[3]⟩,
 ⟨some 17,(.ext 1),[.t 12],none,[3]⟩,
 ⟨some 7,(.alloc [(.imm (.int .i64 0)),(.imm (.int .i64 0)),(.imm (.slc 4 [])),(.imm (.int .i64 0)),(.imm (.int .i64 0)),(.imm (.int .i64 0)),(.imm (.slc 3 []))]),[],none,[]⟩,
 ⟨none,(.store 7),[.t 7,.t 16],none,[6,4,2,0,1,2,3,4,6]⟩,
 ⟨some 8,.mov,[.t 17],none,[5,7,0,1,2,3,4,5,6,7]⟩] false)
 (.seq
 (.seq
 (.region [⟨some 18,.mov,[.t 8],none,[]⟩,
 ⟨some 19,(.bin .neq),[.t 18,.c (.int .i64 0)],none,[0]⟩] false)
 (.cond (.t 19)
 (.seq
 (.region [⟨some 20,.mov,[.t 8],none,[]⟩,
 ⟨some 4,.mov,[.c (.slc 1 [])],none,[]⟩,
 ⟨some 5,.mov,[.c (.int .i64 0)],none,[1,1]⟩,
 ⟨some 6,.mov,[.t 20],none,[0,2,0,1,2]⟩] false)
 .ret)
 .skip))
 (.keep [7] [7] b13k0))))
def d13:DFn:=⟨2,32,[.tmp 4,.tmp 5,.tmp 6],b13⟩
theorem body13:d13.body=b13:=rfl
theorem res13:d13.res=[.tmp 4,.tmp 5,.tmp 6]:=rfl
theorem k13:chkFn Try.prog Try.f13 d13=true:=by kernel_rfl
def b10k0:DCode :=
 (.seq
 (.region [⟨some 36,(.load true 7),[.t 9],none,[]⟩,
 ⟨some 37,(.faddr 0 false 1),[.t 5],none,[]⟩,
 ⟨some 38,(.load false 1),[.t 37],none,[1]⟩,
 ⟨some 39,(.faddr 1 false 1),[.t 5],none,[]⟩,
 ⟨some 40,(.load false 1),[.t 39],none,[3]⟩,
 ⟨some 41,(.build [(.imm (.int .i64 0)),(.imm (.int .i64 0))] [(0,1),(1,1)]),[.t 38,.t 40],none,[2,4]⟩,
 ⟨some 42,.call,[.f 30,.t 36,.t 41],none,[0,5]⟩,
 ⟨some 35,.mov,[.t 42],none,[6]⟩,
 ⟨some 43,(.ext 0),[.t 35],none,[7]⟩,
 ⟨some 44,(.ext 1),[.t 35],none,[7]⟩,
 ⟨some 45,(.ext 2),[.t 35],none,[7]⟩,
 ⟨some 11,.movv,[.t 43],none,[8,6,0,1,2,3,4,5,6,7,8]⟩,
 ⟨some 12,.mov,[.t 44],none,[9,11,0,1,2,3,4,5,6,7,8,9,11]⟩,
 ⟨some 13,.mov,[.t 45],none,[10,12,0,1,2,3,4,5,6,7,8,9,10,11,12]⟩] false)
 (.seq
 (.region [⟨some 46,.movv,[.t 11],none,[]⟩,
 ⟨some 47,.mov,[.t 12],none,[]⟩,
 ⟨some 48,.mov,[.t 13],none,[]⟩,
 ⟨some 49,.call,[.f 27,.t 48,.c (.int .i64 12)],none,[2]⟩,
 ⟨some 6,.movv,[.t 46],none,[0,3,0]⟩,
 ⟨some 7,.mov,[.t 47],none,[1,4,0,1,4]⟩,
 ⟨some 8,.mov,[.t 49],none,[3,5,0,1,2,3,4,5]⟩] false)
 .ret))
def b10:DCode :=
 (.seq
 (.region [⟨some 3,.box,[.t 0],none,[]⟩,
 ⟨some 4,.box,[.t 1],none,[]⟩,
 ⟨some 5,.box,[.t 2],none,[]⟩,
 ⟨some 6,.mov,[.c (.slc 1 [])],none,[]⟩,
 ⟨some 7,.mov,[.c (.int .i64 0)],none,[3]⟩,
 ⟨some 8,.mov,[.c (.int .i64 0)],none,[4]⟩] false)
 (.seq
 (.region [⟨some 15,(.load true 3),[.t 3],none,[]⟩,
 ⟨some 16,(.load true 4),[.t 4],none,[]⟩,
 ⟨some 17,.call,[.f 25,.t 15,.t 16],none,[0,1]⟩,
 ⟨some 14,.mov,[.t 17],none,[2]⟩,
 ⟨some 18,(.ext 0),[.t 14],none,[3]⟩,
 ⟨some 19,(.ext 1),[.t 14],none,[3]⟩,
 ⟨some 9,(.alloc [(.imm (.int .i64 0)),(.imm (.int .i64 0)),(.imm (.slc 4 [])),(.imm (.int .i64 0)),(.imm (.int .i64 0)),(.imm (.int .i64 0)),(.imm (.slc 3 []))]),[],none,[]⟩,
 ⟨none,(.store 7),[.t 9,.t 18],none,[6,4,2,0,1,2,3,4,6]⟩,
 ⟨some 10,.mov,[.t 19],none,[5,7,0,1,2,3,4,5,6,7]⟩] false)
 (.seq
 (.seq
 (.region [⟨some 20,.mov,[.t 10],none,[]⟩,
 ⟨some 21,(.load true 7),[.t 9],none,[]⟩,
 ⟨some 22,(.faddr 0 false 1),[.t 5],none,[]⟩,
 ⟨some 23,(.load false 1),[.t 22],none,[2]⟩,
 ⟨some 24,.call,[.f 28,.t 21,.t 23],none,[1,3]⟩,
 ⟨some 25,.call,[.f 27,.t 24,.c (.int .i64 6)],none,[4,4]⟩,
 ⟨some 26,(.faddr 1 false 1),[.t 5],none,[]⟩,
 ⟨some 27,(.load false 1),[.t 26],none,[6]⟩,
 ⟨some 28,.call,[.f 29,.t 27,.c (.int .i64 0),.c (.int .i64 10)],none,[7,5]⟩,
 ⟨some 29,.call,[.f 27,.t 28,.c (.int .i64 2)],none,[8,8]⟩,
 ⟨some 30,(.bsl 1),[.t 20,.t 25,.t 29],none,[0,5,9]⟩,
 ⟨some 31,.call,[.f 26,.t 30],none,[10,9]⟩,
 ⟨some 10,.mov,[.t 31],none,[11,11,0,1,2,3,4,5,6,7,8,9,10,11]⟩] true)
 (.seq
 (.region [⟨some 32,.mov,[.t 10],none,[]⟩,
 ⟨some 33,(.bin .neq),[.t 32,.c (.int .i64 0)],none,[0]⟩] false)
 (.cond (.t 33)
 (.seq
 (.region [⟨some 34,.mov,[.t 10],none,[]⟩,
 ⟨some 6,.mov,[.c (.slc 1 [])],none,[]⟩,
 ⟨some 7,.mov,[.c (.int .i64 0)],none,[1,1]⟩,
 ⟨some 8,.mov,[.t 34],none,[0,2,0,1,2]⟩] false)
 .ret)
 .skip)))
 (.keep [5,9] [5,9] b10k0))))
def d10:DFn:=⟨3,50,[.tmp 6,.tmp 7,.tmp 8],b10⟩
theorem body10:d10.body=b10:=rfl
theorem res10:d10.res=[.tmp 6,.tmp 7,.tmp 8]:=rfl
theorem k10:chkFn Try.prog Try.f10 d10=true:=by kernel_rfl
def b32:DCode :=
 (.seq
 (.region [⟨some 2,.mov,[.c (.bool false)],none,[]⟩] false)
 (.seq
 (.region [⟨some 3,.mov,[.t 0],none,[]⟩,
 ⟨some 4,.call,[.f 46,.t 3,.c (.int .i64 1000000)],none,[0]⟩,
 ⟨some 2,.mov,[.t 4],none,[1,1,0,1]⟩] false)
 .ret))
def d32:DFn:=⟨1,5,[.tmp 2],b32⟩
theorem body32:d32.body=b32:=rfl
theorem res32:d32.res=[.tmp 2]:=rfl
theorem k32:chkFn Try.prog Try.f32 d32=true:=by kernel_rfl
def b33:DCode :=
 (.seq
 (.region [⟨some 2,.mov,[.c (.int .i64 0)],none,[]⟩] false)
 (.seq
 (.region [⟨some 4,.movv,[.t 0],none,[]⟩,
 ⟨some 5,.call,[.f 43,.t 4,.f 47],none,[0]⟩,
 ⟨some 3,.mov,[.t 5],none,[1,1,0,1]⟩] false)
 (.seq
 (.region [⟨some 6,.movv,[.t 0],none,[]⟩,
 ⟨some 7,.len,[.t 6],none,[0]⟩,
 ⟨some 8,(.bin .leq),[.t 7,.c (.int .i64 300)],none,[1]⟩,
 ⟨some 9,.call,[.f 27,.t 8,.c (.int .i64 8)],none,[2]⟩,
 ⟨some 10,.mov,[.t 3],none,[]⟩,
 ⟨some 11,(.un .not),[.t 10],none,[4]⟩,
 ⟨some 12,.call,[.f 27,.t 11,.c (.int .i64 2)],none,[5,3]⟩,
 ⟨some 13,(.bsl 1),[.t 9,.t 12],none,[3,6]⟩,
 ⟨some 14,.call,[.f 26,.t 13],none,[7,6]⟩,
 ⟨some 2,.mov,[.t 14],none,[8,8,0,1,2,3,4,5,6,7,8]⟩] false)
 .ret)))
def d33:DFn:=⟨1,15,[.tmp 2],b33⟩
theorem body33:d33.body=b33:=rfl
theorem res33:d33.res=[.tmp 2]:=rfl
theorem k33:chkFn Try.prog Try.f33 d33=true:=by kernel_rfl
def b47:DCode :=
 (.seq
 (.region [⟨some 2,.mov,[.c (.bool false)],none,[]⟩] false)
 (.seq
 (.region [⟨some 3,.mov,[.t 0],none,[]⟩,
 ⟨some 4,.call,[.f 32,.t 3],none,[0]⟩,
 ⟨some 5,(.un .not),[.t 4],none,[1]⟩,
 ⟨some 2,.mov,[.t 5],none,[2,1,0,1,2]⟩] false)
 .ret))
def d47:DFn:=⟨1,6,[.tmp 2],b47⟩
theorem body47:d47.body=b47:=rfl
theorem res47:d47.res=[.tmp 2]:=rfl
theorem k47:chkFn Try.prog Try.f47 d47=true:=by kernel_rfl
def b34:DCode :=
 (.seq
 (.region [⟨some 2,.mov,[.c (.int .i64 0)],none,[]⟩] false)
 (.seq
 (.region [⟨some 3,.mov,[.t 0],none,[]⟩,
 ⟨some 4,.mov,[.t 0],none,[]⟩,
 ⟨some 5,(.un .neg),[.t 4],none,[1]⟩,
 ⟨some 6,(.mm true),[.t 3,.t 5],none,[0,2]⟩,
 ⟨some 2,.mov,[.t 6],none,[3,0,1,2,3]⟩] false)
 .ret))
def d34:DFn:=⟨1,7,[.tmp 2],b34⟩
theorem body34:d34.body=b34:=rfl
theorem res34:d34.res=[.tmp 2]:=rfl
theorem k34:chkFn Try.prog Try.f34 d34=true:=by kernel_rfl
def b19k0:DCode :=
 (.seq
 (.block 1
 (.seq
 (.region [⟨some 30,(.iaddr 1),[.t 26,.t 28],none,[]⟩,
 ⟨some 31,(.load false 1),[.t 30],none,[0]⟩,
 ⟨some 11,.mov,[.t 31],none,[1,0,1]⟩] false)
 (.seq
 (.region [⟨some 32,.mov,[.t 11],none,[]⟩,
 ⟨some 33,.mov,[.t 0],none,[]⟩,
 ⟨some 34,.mov,[.t 1],none,[]⟩,
 ⟨some 35,(.bin .sub),[.t 33,.t 34],none,[1,2]⟩,
 ⟨some 36,(.mm true),[.t 32,.t 35],none,[0,3]⟩,
 ⟨some 37,.mov,[.t 0],none,[]⟩,
 ⟨some 38,.mov,[.t 1],none,[]⟩,
 ⟨some 39,(.bin .add),[.t 37,.t 38],none,[5,6]⟩,
 ⟨some 40,(.mm false),[.t 36,.t 39],none,[4,7]⟩,
 ⟨some 0,.mov,[.t 40],none,[8,0,1,2,3,4,5,6,7,8]⟩] false)
 (.region [⟨some 41,.mov,[.t 9],none,[]⟩,
 ⟨some 42,.mov,[.t 0],none,[]⟩,
 ⟨some 43,(.bsl 1),[.t 42],none,[1]⟩,
 ⟨some 44,(.append 1 8 false),[.t 41,.t 43],none,[0,2]⟩,
 ⟨some 9,.mov,[.t 44],none,[3,3,0,1,2,3]⟩] false))))
 (.region [⟨some 45,(.bin .add),[.t 28,.c (.int .i64 1)],none,[]⟩,
 ⟨some 28,.mov,[.t 45],none,[0]⟩] false))
def b19l0:DCode:=.keep [0,1,9,26,27,28] [9,44]
 (.seq
 (.region [⟨some 29,(.bin .lss),[.t 28,.t 27],none,[]⟩] false)
 (.seq
 (.cond (.t 29)
 .skip
 (.exit 0))
 (.keep [0,1,9,26,27,28] [9,44] b19k0)))
def b19k1:DCode :=
 (.seq
 (.region [⟨some 46,.movv,[.t 9],none,[]⟩,
 ⟨some 6,.movv,[.t 46],none,[0,0]⟩,
 ⟨some 7,.mov,[.c (.int .i64 0)],none,[1,0,1]⟩] false)
 .ret)
def b19k2:DCode :=
 (.seq
 (.region [⟨some 9,(.ntok 1),[.c (.slc 1 [])],none,[]⟩] false)
 (.seq
 (.seq
 (.region [⟨some 26,.movv,[.t 2],none,[]⟩,
 ⟨some 27,.len,[.t 26],none,[0]⟩,
 ⟨some 28,.mov,[.c (.int .i64 0)],none,[]⟩] false)
 (.block 0
 (.loop b19l0)))
 (.keep [9] [9,44] b19k1)))
def b19:DCode :=
 (.seq
 (.region [⟨some 6,.mov,[.c (.slc 1 [])],none,[]⟩,
 ⟨some 7,.mov,[.c (.int .i64 0)],none,[0]⟩] false)
 (.seq
 (.seq
 (.region [⟨some 12,.mov,[.t 0],none,[]⟩,
 ⟨some 13,.call,[.f 32,.t 12],none,[0]⟩,
 ⟨some 14,.mov,[.t 13],none,[1,1]⟩,
 ⟨some 15,.mov,[.t 1],(some (14,true)),[2]⟩,
 ⟨some 16,.call,[.f 29,.t 15,.c (.int .i64 0),.c (.int .i64 1000000)],(some (14,true)),[3,2,2]⟩,
 ⟨some 17,.pick,[.t 14,.t 16,.c (.bool false)],none,[2,4]⟩,
 ⟨some 18,.call,[.f 27,.t 17,.c (.int .i64 2)],none,[5,4]⟩,
 ⟨some 19,.movv,[.t 2],none,[]⟩,
 ⟨some 20,.call,[.f 33,.t 19],none,[7,6]⟩,
 ⟨some 21,(.bsl 1),[.t 18,.t 20],none,[6,8]⟩,
 ⟨some 22,.call,[.f 26,.t 21],none,[9,8]⟩,
 ⟨some 8,.mov,[.t 22],none,[10,10,0,1,2,3,4,5,6,7,8,9,10]⟩] false)
 (.seq
 (.region [⟨some 23,.mov,[.t 8],none,[]⟩,
 ⟨some 24,(.bin .neq),[.t 23,.c (.int .i64 0)],none,[0]⟩] false)
 (.cond (.t 24)
 (.seq
 (.region [⟨some 25,.mov,[.t 8],none,[]⟩,
 ⟨some 6,.mov,[.c (.slc 1 [])],none,[]⟩,
 ⟨some 7,.mov,[.t 25],none,[0,1,0,1]⟩] false)
 .ret)
 .skip)))
 (.keep [0,1,2] [] b19k2)))
def d19:DFn:=⟨3,47,[.tmp 6,.tmp 7],b19⟩
theorem body19:d19.body=b19:=rfl
theorem res19:d19.res=[.tmp 6,.tmp 7]:=rfl
theorem k19:chkFn Try.prog Try.f19 d19=true:=by kernel_rfl
def b21k0:DCode :=
 (.seq
 (.region [⟨some 58,(.faddr 0 false 1),[.t 7],none,[]⟩,
 ⟨some 59,(.load false 1),[.t 58],none,[0]⟩,
 ⟨some 60,.mov,[.t 11],none,[]⟩,
 ⟨some 61,(.bin .add),[.t 59,.t 60],none,[1,2]⟩,
 ⟨some 62,(.faddr 0 false 1),[.t 7],none,[0,1,2,3]⟩,
 ⟨none,(.store 1),[.t 62,.t 61],none,[4,3,0,1,2,3]⟩] false)
 (.seq
 (.region [⟨some 63,(.faddr 1 false 1),[.t 7],none,[]⟩,
 ⟨some 64,(.load false 1),[.t 63],none,[0]⟩,
 ⟨some 65,.mov,[.t 9],none,[]⟩,
 ⟨some 66,.call,[.f 34,.t 65],none,[2]⟩,
 ⟨some 67,.mov,[.t 11],none,[]⟩,
 ⟨some 68,(.bin .sub),[.t 66,.t 67],none,[3,4]⟩,
 ⟨some 69,(.bin .add),[.t 64,.t 68],none,[1,5]⟩,
 ⟨some 70,(.faddr 1 false 1),[.t 7],none,[0,1,2,3,4,5,6]⟩,
 ⟨none,(.store 1),[.t 70,.t 69],none,[7,6,3,0,1,2,3,4,5,6]⟩] true)
 (.region [⟨some 71,(.faddr 2 false 1),[.t 7],none,[]⟩,
 ⟨some 72,(.load false 1),[.t 71],none,[0]⟩,
 ⟨some 73,.mov,[.t 10],none,[]⟩,
 ⟨some 74,.call,[.f 34,.t 73],none,[2]⟩,
 ⟨some 75,.mov,[.t 11],none,[]⟩,
 ⟨some 76,(.bin .sub),[.t 74,.t 75],none,[3,4]⟩,
 ⟨some 77,(.bin .add),[.t 72,.t 76],none,[1,5]⟩,
 ⟨some 78,(.faddr 2 false 1),[.t 7],none,[0,1,2,3,4,5,6]⟩,
 ⟨none,(.store 1),[.t 78,.t 77],none,[7,6,3,0,1,2,3,4,5,6]⟩] true)))
def b21k1:DCode :=
 (.region [⟨some 79,(.bin .add),[.t 30,.c (.int .i64 1)],none,[]⟩,
 ⟨some 30,.mov,[.t 79],none,[0]⟩] false)
def b21k2:DCode :=
 (.seq
 (.block 1
 (.seq
 (.region [⟨some 32,.mov,[.t 30],none,[]⟩,
 ⟨some 33,(.iaddr 1),[.t 28,.t 30],none,[]⟩,
 ⟨some 34,(.load false 1),[.t 33],none,[1]⟩,
 ⟨some 8,.mov,[.t 32],none,[0,0,1,2]⟩,
 ⟨some 9,.mov,[.t 34],none,[2,3,0,1,2,3]⟩] false)
 (.seq
 (.region [⟨some 35,.movv,[.t 1],none,[]⟩,
 ⟨some 36,.mov,[.t 8],none,[]⟩,
 ⟨some 37,(.iaddr 1),[.t 35,.t 36],none,[0,1]⟩,
 ⟨some 38,(.load false 1),[.t 37],none,[2]⟩,
 ⟨some 10,.mov,[.t 38],none,[3,0,1,2,3]⟩] false)
 (.seq
 (.region [⟨some 11,.mov,[.c (.int .i64 0)],none,[]⟩] false)
 (.seq
 (.seq
 (.region [⟨some 39,.mov,[.t 9],none,[]⟩,
 ⟨some 40,(.bin .gtr),[.t 39,.c (.int .i64 0)],none,[0]⟩,
 ⟨some 41,.mov,[.t 40],none,[1]⟩,
 ⟨some 42,.mov,[.t 10],(some (41,true)),[2]⟩,
 ⟨some 43,(.bin .gtr),[.t 42,.c (.int .i64 0)],(some (41,true)),[3,2]⟩,
 ⟨some 44,.pick,[.t 41,.t 43,.c (.bool false)],none,[2,4]⟩,
 ⟨some 45,.mov,[.t 44],none,[5,2]⟩,
 ⟨some 46,.mov,[.t 9],(some (45,false)),[6]⟩,
 ⟨some 47,(.bin .lss),[.t 46,.c (.int .i64 0)],(some (45,false)),[7,6]⟩,
 ⟨some 48,.mov,[.t 47],(some (45,false)),[8,6,6]⟩,
 ⟨some 49,.mov,[.t 10],(some (48,true)),[9]⟩,
 ⟨some 50,(.bin .lss),[.t 49,.c (.int .i64 0)],(some (48,true)),[10,9]⟩,
 ⟨some 51,.pick,[.t 48,.t 50,.c (.bool false)],(some (45,false)),[9,11,6]⟩,
 ⟨some 52,.pick,[.t 45,.c (.bool true),.t 51],none,[6,12]⟩] false)
 (.cond (.t 52)
 (.region [⟨some 53,.mov,[.t 9],none,[]⟩,
 ⟨some 54,.call,[.f 34,.t 53],none,[0]⟩,
 ⟨some 55,.mov,[.t 10],none,[]⟩,
 ⟨some 56,.call,[.f 34,.t 55],none,[2,1]⟩,
 ⟨some 57,(.mm false),[.t 54,.t 56],none,[1,3]⟩,
 ⟨some 11,.mov,[.t 57],none,[4,3,0,1,2,3,4]⟩] false)
 .skip))
 (.keep [1,4,7,9,10,11,28,29,30] [4,7] b21k0))))))
 (.keep [1,4,7,28,29,30] [4,7] b21k1))
def b21l0:DCode:=.keep [1,4,7,28,29,30] [4,7]
 (.seq
 (.region [⟨some 31,(.bin .lss),[.t 30,.t 29],none,[]⟩] false)
 (.seq
 (.cond (.t 31)
 .skip
 (.exit 0))
 (.keep [1,4,7,28,29,30] [4,7] b21k2)))
def b21k3:DCode :=
 (.seq
 (.region [⟨some 80,(.load true 3),[.t 7],none,[]⟩,
 ⟨none,(.store 3),[.t 4,.t 80],none,[0,0]⟩,
 ⟨some 5,.mov,[.c (.int .i64 0)],none,[1,0,1]⟩] false)
 .ret)
def b21k4:DCode :=
 (.seq
 (.region [⟨some 7,(.alloc [(.imm (.int .i64 0)),(.imm (.int .i64 0)),(.imm (.int .i64 0))]),[],none,[]⟩] false)
 (.seq
 (.seq
 (.region [⟨some 28,.movv,[.t 0],none,[]⟩,
 ⟨some 29,.len,[.t 28],none,[0]⟩,
 ⟨some 30,.mov,[.c (.int .i64 0)],none,[]⟩] false)
 (.block 0
 (.loop b21l0)))
 (.keep [4,7] [4,7] b21k3)))
def b21:DCode :=
 (.seq
 (.region [⟨some 4,(.alloc [(.imm (.int .i64 0)),(.imm (.int .i64 0)),(.imm (.int .i64 0))]),[],none,[]⟩,
 ⟨some 5,.mov,[.c (.int .i64 0)],none,[]⟩] false)
 (.seq
 (.seq
 (.region [⟨some 12,.movv,[.t 0],none,[]⟩,
 ⟨some 13,.call,[.f 33,.t 12],none,[0]⟩,
 ⟨some 14,.movv,[.t 1],none,[]⟩,
 ⟨some 15,.call,[.f 33,.t 14],none,[2,1]⟩,
 ⟨some 16,.movv,[.t 0],none,[]⟩,
 ⟨some 17,.len,[.t 16],none,[4]⟩,
 ⟨some 18,.movv,[.t 1],none,[]⟩,
 ⟨some 19,.len,[.t 18],none,[6]⟩,
 ⟨some 20,(.bin .eql),[.t 17,.t 19],none,[5,7]⟩,
 ⟨some 21,.call,[.f 27,.t 20,.c (.int .i64 10)],none,[8,3]⟩,
 ⟨some 22,(.bsl 1),[.t 13,.t 15,.t 21],none,[1,3,9]⟩,
 ⟨some 23,.call,[.f 26,.t 22],none,[10,9]⟩,
 ⟨some 6,.mov,[.t 23],none,[11,11,0,1,2,3,4,5,6,7,8,9,10,11]⟩] false)
 (.seq
 (.region [⟨some 24,.mov,[.t 6],none,[]⟩,
 ⟨some 25,(.bin .neq),[.t 24,.c (.int .i64 0)],none,[0]⟩] false)
 (.cond (.t 25)
 (.seq
 (.region [⟨some 26,(.build [(.imm (.int .i64 0)),(.imm (.int .i64 0)),(.imm (.int .i64 0))] []),[],none,[]⟩,
 ⟨some 27,.mov,[.t 6],none,[]⟩,
 ⟨none,(.store 3),[.t 4,.t 26],none,[0,0]⟩,
 ⟨some 5,.mov,[.t 27],none,[1,2,0,1,2]⟩] false)
 .ret)
 .skip)))
 (.keep [0,1,4] [4] b21k4)))
def d21:DFn:=⟨2,81,[.cell 4 true 3,.tmp 5],b21⟩
theorem body21:d21.body=b21:=rfl
theorem res21:d21.res=[.cell 4 true 3,.tmp 5]:=rfl
theorem k21:chkFn Try.prog Try.f21 d21=true:=by kernel_rfl
def b4:DCode :=
 (.seq
 (.region [⟨some 0,.mov,[.c (.bool false)],none,[]⟩] false)
 (.seq
 (.region [⟨some 7,.call,[.f 22],none,[]⟩,
 ⟨some 8,.call,[.f 23],none,[0]⟩,
 ⟨some 9,.call,[.f 13,.t 7,.t 8],none,[0,1,1]⟩,
 ⟨some 6,.mov,[.t 9],none,[2]⟩,
 ⟨some 10,(.ext 0),[.t 6],none,[3]⟩,
 ⟨some 11,(.ext 1),[.t 6],none,[3]⟩,
 ⟨some 12,(.ext 2),[.t 6],none,[3]⟩,
 ⟨some 1,.movv,[.t 10],none,[4,2,0,1,2,3,4]⟩,
 ⟨some 2,.mov,[.t 11],none,[5,7,0,1,2,3,4,5,7]⟩,
 ⟨some 3,.mov,[.t 12],none,[6,8,0,1,2,3,4,5,6,7,8]⟩] false)
 (.seq
 (.region [⟨some 14,(.bsl 1),[.c (.int .i64 12),.c (.int .i64 12),.c (.int .i64 3)],none,[]⟩,
 ⟨some 15,(.bsl 1),[.c (.int .i64 5),.c (.int .i64 10),.c (.int .i64 5)],none,[]⟩,
 ⟨some 16,.call,[.f 21,.t 14,.t 15],none,[0,1]⟩,
 ⟨some 13,.mov,[.t 16],none,[2]⟩,
 ⟨some 17,(.ext 0),[.t 13],none,[3]⟩,
 ⟨some 18,(.ext 1),[.t 13],none,[3]⟩,
 ⟨some 4,(.alloc [(.imm (.int .i64 0)),(.imm (.int .i64 0)),(.imm (.int .i64 0))]),[],none,[]⟩,
 ⟨none,(.store 3),[.t 4,.t 17],none,[6,4,2,0,1,2,3,4,6]⟩,
 ⟨some 5,.mov,[.t 18],none,[5,7,0,1,2,3,4,5,6,7]⟩] false)
 (.seq
 (.region [⟨some 19,.mov,[.t 3],none,[]⟩,
 ⟨some 20,(.bin .eql),[.t 19,.c (.int .i64 0)],none,[0]⟩,
 ⟨some 21,.mov,[.t 20],none,[1]⟩,
 ⟨some 22,.mov,[.t 2],(some (21,true)),[2]⟩,
 ⟨some 23,(.bin .eql),[.t 22,.c (.int .i64 30)],(some (21,true)),[3,2]⟩,
 ⟨some 24,.pick,[.t 21,.t 23,.c (.bool false)],none,[2,4]⟩,
 ⟨some 25,.mov,[.t 24],none,[5,2]⟩,
 ⟨some 26,.movv,[.t 1],(some (25,true)),[6]⟩,
 ⟨some 27,(.bsl 1),[.c (.int .i64 0),.c (.int .i64 2)],(some (25,true)),[6]⟩,
 ⟨some 28,.call,[.f 20,.t 26,.t 27],(some (25,true)),[7,8,6,6]⟩,
 ⟨some 29,.pick,[.t 25,.t 28,.c (.bool false)],none,[6,9]⟩,
 ⟨some 30,.mov,[.t 29],none,[10,9]⟩,
 ⟨some 31,.mov,[.t 5],(some (30,true)),[11]⟩,
 ⟨some 32,(.bin .eql),[.t 31,.c (.int .i64 0)],(some (30,true)),[12,11]⟩,
 ⟨some 33,.pick,[.t 30,.t 32,.c (.bool false)],none,[11,13]⟩,
 ⟨some 34,.mov,[.t 33],none,[14,11]⟩,
 ⟨some 35,(.load true 3),[.t 4],(some (34,true)),[15]⟩,
 ⟨some 36,(.build [(.imm (.int .i64 0)),(.imm (.int .i64 0)),(.imm (.int .i64 0))] [(0,1),(1,1),(2,1)]),[.c (.int .i64 18),.c (.int .i64 9),.c (.int .i64 2)],(some (34,true)),[15]⟩,
 ⟨some 37,(.eqs [false,false,false] false),[.t 35,.t 36],(some (34,true)),[16,17,15]⟩,
 ⟨some 38,.pick,[.t 34,.t 37,.c (.bool false)],none,[15,18]⟩,
 ⟨some 0,.mov,[.t 38],none,[19,15,0,1,2,3,4,5,6,7,8,9,10,11,12,13,14,15,16,17,18,19]⟩] false)
 .ret))))
def d4:DFn:=⟨0,39,[.tmp 0],b4⟩
theorem body4:d4.body=b4:=rfl
theorem res4:d4.res=[.tmp 0]:=rfl
theorem k4:chkFn Try.prog Try.f4 d4=true:=by kernel_rfl
def b3k0:DCode :=
 (.region [⟨some 167,.mov,[.t 16],none,[]⟩,
 ⟨some 168,(.faddr 3 false 1),[.t 4],none,[]⟩,
 ⟨some 169,(.load false 1),[.t 168],none,[1]⟩,
 ⟨some 170,.mov,[.t 17],none,[]⟩,
 ⟨some 171,(.iaddr 3),[.t 169,.t 170],none,[2,3]⟩,
 ⟨some 172,(.faddr 2 false 1),[.t 171],none,[4]⟩,
 ⟨some 173,(.load false 1),[.t 172],none,[5]⟩,
 ⟨some 174,(.bin .add),[.t 167,.t 173],none,[0,6]⟩,
 ⟨some 175,(.faddr 2 false 1),[.t 3],none,[]⟩,
 ⟨some 176,(.load false 1),[.t 175],none,[8]⟩,
 ⟨some 177,(.faddr 0 true 2),[.t 5],none,[]⟩,
 ⟨some 178,(.faddr 0 false 1),[.t 177],none,[10]⟩,
 ⟨some 179,(.load false 1),[.t 178],none,[11]⟩,
 ⟨some 180,(.iaddr 4),[.t 176,.t 179],none,[9,12]⟩,
 ⟨some 181,(.faddr 1 false 1),[.t 180],none,[13]⟩,
 ⟨some 182,(.load false 1),[.t 181],none,[14]⟩,
 ⟨some 183,(.bin .add),[.t 174,.t 182],none,[7,15]⟩,
 ⟨some 16,.mov,[.t 183],none,[16,0,1,2,3,4,5,6,7,8,9,10,11,12,13,14,15,16]⟩] true)
def b3k1:DCode :=
 (.region [⟨some 158,.mov,[.t 17],none,[]⟩,
 ⟨some 159,(.bin .add),[.t 158,.c (.int .i64 1)],none,[0]⟩,
 ⟨some 17,.mov,[.t 159],none,[1,0,1]⟩] false)
def b3k2:DCode :=
 (.seq
 (.block 1
 (.seq
 (.seq
 (.region [⟨some 160,.mov,[.t 16],none,[]⟩,
 ⟨some 161,(.faddr 0 false 1),[.t 3],none,[]⟩,
 ⟨some 162,(.load false 1),[.t 161],none,[1]⟩,
 ⟨some 163,(.faddr 1 false 1),[.t 3],none,[]⟩,
 ⟨some 164,(.load false 1),[.t 163],none,[3]⟩,
 ⟨some 165,.call,[.f 17,.t 160,.t 162,.t 164],none,[0,2,4]⟩,
 ⟨some 166,(.un .not),[.t 165],none,[5]⟩] false)
 (.cond (.t 166)
 (.seq
 (.region [⟨some 6,.mov,[.c (.bool false)],none,[]⟩] false)
 .ret)
 .skip))
 (.keep [3,4,5,8,15,16,17] [3,4,5] b3k0)))
 (.keep [3,4,5,8,15,16,17] [3,4,5] b3k1))
def b3l0:DCode:=.keep [3,4,5,8,15,16,17] [3,4,5]
 (.seq
 (.seq
 (.region [⟨some 144,.mov,[.t 17],none,[]⟩,
 ⟨some 145,(.faddr 3 false 1),[.t 4],none,[]⟩,
 ⟨some 146,(.load false 1),[.t 145],none,[1]⟩,
 ⟨some 147,.len,[.t 146],none,[2]⟩,
 ⟨some 148,(.bin .lss),[.t 144,.t 147],none,[0,3]⟩,
 ⟨some 149,.mov,[.t 148],none,[4]⟩,
 ⟨some 150,.mov,[.t 17],(some (149,true)),[5]⟩,
 ⟨some 151,.mov,[.t 15],(some (149,true)),[5]⟩,
 ⟨some 152,(.faddr 0 true 2),[.t 5],(some (149,true)),[5]⟩,
 ⟨some 153,(.faddr 1 false 1),[.t 152],(some (149,true)),[8,5]⟩,
 ⟨some 154,(.load false 1),[.t 153],(some (149,true)),[9,5]⟩,
 ⟨some 155,(.bin .add),[.t 151,.t 154],(some (149,true)),[7,10,5]⟩,
 ⟨some 156,(.bin .lss),[.t 150,.t 155],(some (149,true)),[6,11,5]⟩,
 ⟨some 157,.pick,[.t 149,.t 156,.c (.bool false)],none,[5,12]⟩] false)
 (.cond (.t 157)
 .skip
 (.exit 0)))
 (.keep [3,4,5,8,15,16,17] [3,4,5] b3k2))
def b3k3:DCode :=
 (.seq
 (.region [⟨some 191,(.faddr 0 true 2),[.t 5],none,[]⟩,
 ⟨some 192,(.faddr 1 false 1),[.t 191],none,[0]⟩,
 ⟨some 193,(.load false 1),[.t 192],none,[1]⟩,
 ⟨some 194,(.bin .gtr),[.t 193,.c (.int .i64 0)],none,[2]⟩] false)
 (.cond (.t 194)
 (.seq
 (.region [⟨some 195,(.faddr 0 true 2),[.t 5],none,[]⟩,
 ⟨some 196,(.load true 2),[.t 195],none,[0]⟩,
 ⟨some 18,(.alloc [(.imm (.int .i64 0)),(.imm (.int .i64 0))]),[],none,[]⟩,
 ⟨none,(.store 2),[.t 18,.t 196],none,[2,1,0,1,2]⟩] false)
 (.seq
 (.region [⟨some 197,(.faddr 0 true 2),[.t 5],none,[]⟩,
 ⟨some 198,(.faddr 1 false 1),[.t 197],none,[0]⟩,
 ⟨some 199,(.load false 1),[.t 198],none,[1]⟩,
 ⟨some 200,(.bin .sub),[.t 199,.c (.int .i64 1)],none,[2]⟩,
 ⟨some 201,(.faddr 1 false 1),[.t 18],none,[0,1,2,3]⟩,
 ⟨none,(.store 1),[.t 201,.t 200],none,[4,3,0,1,2,3]⟩] false)
 (.seq
 (.region [⟨some 203,(.load true 3),[.t 3],none,[]⟩,
 ⟨some 204,.call,[.f 11,.t 203],none,[0]⟩,
 ⟨some 205,(.load true 4),[.t 4],none,[]⟩,
 ⟨some 206,.call,[.f 12,.t 205],none,[2,1]⟩,
 ⟨some 207,(.load true 2),[.t 18],none,[]⟩,
 ⟨some 208,.call,[.f 10,.t 204,.t 206,.t 207],none,[1,3,4,3]⟩,
 ⟨some 202,.mov,[.t 208],none,[5]⟩,
 ⟨some 209,(.ext 0),[.t 202],none,[6]⟩,
 ⟨some 210,(.ext 1),[.t 202],none,[6]⟩,
 ⟨some 211,(.ext 2),[.t 202],none,[6]⟩,
 ⟨some 19,.movv,[.t 209],none,[7,5,0,1,2,3,4,5,6,7]⟩,
 ⟨some 20,.mov,[.t 210],none,[8,10,0,1,2,3,4,5,6,7,8,10]⟩,
 ⟨some 21,.mov,[.t 211],none,[9,11,0,1,2,3,4,5,6,7,8,9,10,11]⟩] true)
 (.seq
 (.region [⟨some 212,.mov,[.t 21],none,[]⟩,
 ⟨some 213,(.bin .neq),[.t 212,.c (.int .i64 0)],none,[0]⟩,
 ⟨some 214,.mov,[.t 213],none,[1]⟩,
 ⟨some 215,.mov,[.t 20],(some (214,false)),[2]⟩,
 ⟨some 216,.mov,[.t 8],(some (214,false)),[2]⟩,
 ⟨some 217,(.bin .lss),[.t 215,.t 216],(some (214,false)),[3,4,2]⟩,
 ⟨some 218,.pick,[.t 214,.c (.bool true),.t 217],none,[2,5]⟩] false)
 (.cond (.t 218)
 (.seq
 (.region [⟨some 6,.mov,[.c (.bool false)],none,[]⟩] false)
 .ret)
 .skip)))))
 .skip))
def b3k4:DCode :=
 (.seq
 (.seq
 (.region [⟨some 184,.mov,[.t 16],none,[]⟩,
 ⟨some 185,(.faddr 0 false 1),[.t 3],none,[]⟩,
 ⟨some 186,(.load false 1),[.t 185],none,[1]⟩,
 ⟨some 187,(.faddr 1 false 1),[.t 3],none,[]⟩,
 ⟨some 188,(.load false 1),[.t 187],none,[3]⟩,
 ⟨some 189,.call,[.f 17,.t 184,.t 186,.t 188],none,[0,2,4]⟩,
 ⟨some 190,(.un .not),[.t 189],none,[5]⟩] false)
 (.cond (.t 190)
 (.seq
 (.region [⟨some 6,.mov,[.c (.bool false)],none,[]⟩] false)
 .ret)
 .skip))
 (.keep [3,4,5,8] [3,4,5] b3k3))
def b3k5:DCode :=
 (.seq
 (.region [⟨some 133,(.faddr 2 false 1),[.t 5],none,[]⟩,
 ⟨some 134,(.load false 1),[.t 133],none,[0]⟩,
 ⟨some 135,(.faddr 3 false 1),[.t 4],none,[]⟩,
 ⟨some 136,(.load false 1),[.t 135],none,[2]⟩,
 ⟨some 137,.len,[.t 136],none,[3]⟩,
 ⟨some 138,.call,[.f 16,.t 134,.t 137],none,[1,4]⟩,
 ⟨some 15,.mov,[.t 138],none,[5,5,0,1,2,3,4,5]⟩] false)
 (.seq
 (.region [⟨some 139,.movv,[.t 13],none,[]⟩,
 ⟨some 140,.mov,[.t 15],none,[]⟩,
 ⟨some 141,(.iaddr 1),[.t 139,.t 140],none,[0,1]⟩,
 ⟨some 142,(.load false 1),[.t 141],none,[2]⟩,
 ⟨some 16,.mov,[.t 142],none,[3,0,1,2,3]⟩] false)
 (.seq
 (.seq
 (.region [⟨some 143,.mov,[.t 15],none,[]⟩,
 ⟨some 17,.mov,[.t 143],none,[0,0]⟩] false)
 (.block 0
 (.loop b3l0)))
 (.keep [3,4,5,8,16] [3,4,5] b3k4))))
def b3k6:DCode :=
 (.seq
 (.region [⟨some 114,(.load true 3),[.t 3],none,[]⟩,
 ⟨some 115,.call,[.f 11,.t 114],none,[0]⟩,
 ⟨some 116,(.load true 4),[.t 4],none,[]⟩,
 ⟨some 117,.call,[.f 12,.t 116],none,[2,1]⟩,
 ⟨some 118,.movv,[.t 7],none,[]⟩,
 ⟨some 119,.call,[.f 15,.t 118],none,[4,3]⟩,
 ⟨some 120,.call,[.f 14,.t 115,.t 117,.t 119],none,[1,3,5,5]⟩,
 ⟨some 113,.mov,[.t 120],none,[6]⟩,
 ⟨some 121,(.ext 0),[.t 113],none,[7]⟩,
 ⟨some 122,(.ext 1),[.t 113],none,[7]⟩,
 ⟨some 13,.movv,[.t 121],none,[8,6,0,1,2,3,4,5,6,7,8]⟩,
 ⟨some 14,.mov,[.t 122],none,[9,10,0,1,2,3,4,5,6,7,8,9,10]⟩] true)
 (.seq
 (.seq
 (.region [⟨some 123,.mov,[.t 14],none,[]⟩,
 ⟨some 124,(.bin .neq),[.t 123,.c (.int .i64 0)],none,[0]⟩,
 ⟨some 125,.mov,[.t 124],none,[1]⟩,
 ⟨some 126,.movv,[.t 13],(some (125,false)),[2]⟩,
 ⟨some 127,.len,[.t 126],(some (125,false)),[3,2]⟩,
 ⟨some 128,.movv,[.t 7],(some (125,false)),[2]⟩,
 ⟨some 129,.len,[.t 128],(some (125,false)),[5,2]⟩,
 ⟨some 130,(.bin .add),[.t 129,.c (.int .i64 1)],(some (125,false)),[6,2]⟩,
 ⟨some 131,(.bin .neq),[.t 127,.t 130],(some (125,false)),[4,7,2]⟩,
 ⟨some 132,.pick,[.t 125,.c (.bool true),.t 131],none,[2,8]⟩] false)
 (.cond (.t 132)
 (.seq
 (.region [⟨some 6,.mov,[.c (.bool false)],none,[]⟩] false)
 .ret)
 .skip))
 (.keep [3,4,5,8,13] [3,4,5] b3k5)))
def b3k7:DCode :=
 (.seq
 (.block 3
 (.region [⟨some 228,.mov,[.t 22],none,[]⟩,
 ⟨some 229,(.faddr 3 false 1),[.t 5],none,[]⟩,
 ⟨some 230,(.load false 1),[.t 229],none,[1]⟩,
 ⟨some 231,.mov,[.t 24],none,[]⟩,
 ⟨some 232,(.iaddr 1),[.t 230,.t 231],none,[2,3]⟩,
 ⟨some 233,(.load false 1),[.t 232],none,[4]⟩,
 ⟨some 234,.mov,[.t 23],none,[]⟩,
 ⟨some 235,(.bin .sub),[.t 233,.t 234],none,[5,6]⟩,
 ⟨some 236,.call,[.f 18,.t 235],none,[7]⟩,
 ⟨some 237,(.mm true),[.t 228,.t 236],none,[0,8]⟩,
 ⟨some 238,(.faddr 3 false 1),[.t 5],none,[]⟩,
 ⟨some 239,(.load false 1),[.t 238],none,[10]⟩,
 ⟨some 240,.mov,[.t 24],none,[]⟩,
 ⟨some 241,(.iaddr 1),[.t 239,.t 240],none,[11,12]⟩,
 ⟨some 242,(.load false 1),[.t 241],none,[13]⟩,
 ⟨some 22,.mov,[.t 237],none,[9,8,0,1,2,3,4,5,6,7,8,9]⟩,
 ⟨some 23,.mov,[.t 242],none,[14,15,0,1,2,3,4,5,6,7,8,9,10,11,12,13,14,15]⟩] true))
 (.region [⟨some 226,.mov,[.t 24],none,[]⟩,
 ⟨some 227,(.bin .add),[.t 226,.c (.int .i64 1)],none,[0]⟩,
 ⟨some 24,.mov,[.t 227],none,[1,0,1]⟩] false))
def b3l1:DCode:=.keep [5,22,23,24] [5]
 (.seq
 (.seq
 (.region [⟨some 221,.mov,[.t 24],none,[]⟩,
 ⟨some 222,(.faddr 3 false 1),[.t 5],none,[]⟩,
 ⟨some 223,(.load false 1),[.t 222],none,[1]⟩,
 ⟨some 224,.len,[.t 223],none,[2]⟩,
 ⟨some 225,(.bin .lss),[.t 221,.t 224],none,[0,3]⟩] false)
 (.cond (.t 225)
 .skip
 (.exit 2)))
 (.keep [5,22,23,24] [5] b3k7))
def b3k8:DCode :=
 (.seq
 (.region [⟨some 263,(.faddr 3 false 1),[.t 5],none,[]⟩,
 ⟨some 264,(.load false 1),[.t 263],none,[0]⟩,
 ⟨some 265,.call,[.f 15,.t 264],none,[1]⟩,
 ⟨some 266,.movv,[.t 25],none,[]⟩,
 ⟨some 267,.call,[.f 21,.t 265,.t 266],none,[2,3,2]⟩,
 ⟨some 262,.mov,[.t 267],none,[4]⟩,
 ⟨some 268,(.ext 0),[.t 262],none,[5]⟩,
 ⟨some 269,(.ext 1),[.t 262],none,[5]⟩,
 ⟨some 27,(.alloc [(.imm (.int .i64 0)),(.imm (.int .i64 0)),(.imm (.int .i64 0))]),[],none,[]⟩,
 ⟨none,(.store 3),[.t 27,.t 268],none,[8,6,4,0,1,2,3,4,5,6,8]⟩,
 ⟨some 28,.mov,[.t 269],none,[7,9,0,1,2,3,4,5,6,7,8,9]⟩] false)
 (.seq
 (.region [⟨some 271,.mov,[.t 22],none,[]⟩,
 ⟨some 272,(.bin .quo),[.t 271,.c (.int .i64 2)],none,[0]⟩,
 ⟨some 273,(.faddr 3 false 1),[.t 5],none,[]⟩,
 ⟨some 274,(.load false 1),[.t 273],none,[2]⟩,
 ⟨some 275,.call,[.f 15,.t 274],none,[3]⟩,
 ⟨some 276,.call,[.f 19,.c (.int .i64 0),.t 272,.t 275],none,[1,4,4]⟩,
 ⟨some 270,.mov,[.t 276],none,[5]⟩,
 ⟨some 277,(.ext 0),[.t 270],none,[6]⟩,
 ⟨some 278,(.ext 1),[.t 270],none,[6]⟩,
 ⟨some 29,.movv,[.t 277],none,[7,5,0,1,2,3,4,5,6,7]⟩,
 ⟨some 30,.mov,[.t 278],none,[8,9,0,1,2,3,4,5,6,7,8,9]⟩] false)
 (.seq
 (.region [⟨some 280,(.faddr 3 false 1),[.t 5],none,[]⟩,
 ⟨some 281,(.load false 1),[.t 280],none,[0]⟩,
 ⟨some 282,.call,[.f 15,.t 281],none,[1]⟩,
 ⟨some 283,.movv,[.t 29],none,[]⟩,
 ⟨some 284,.call,[.f 21,.t 282,.t 283],none,[2,3,2]⟩,
 ⟨some 279,.mov,[.t 284],none,[4]⟩,
 ⟨some 285,(.ext 0),[.t 279],none,[5]⟩,
 ⟨some 286,(.ext 1),[.t 279],none,[5]⟩,
 ⟨some 31,(.alloc [(.imm (.int .i64 0)),(.imm (.int .i64 0)),(.imm (.int .i64 0))]),[],none,[]⟩,
 ⟨none,(.store 3),[.t 31,.t 285],none,[8,6,4,0,1,2,3,4,5,6,8]⟩,
 ⟨some 32,.mov,[.t 286],none,[7,9,0,1,2,3,4,5,6,7,8,9]⟩] false)
 (.seq
 (.region [⟨some 287,.mov,[.t 28],none,[]⟩,
 ⟨some 288,(.bin .eql),[.t 287,.c (.int .i64 0)],none,[0]⟩,
 ⟨some 289,.mov,[.t 288],none,[1]⟩,
 ⟨some 290,.mov,[.t 30],(some (289,true)),[2]⟩,
 ⟨some 291,(.bin .eql),[.t 290,.c (.int .i64 0)],(some (289,true)),[3,2]⟩,
 ⟨some 292,.pick,[.t 289,.t 291,.c (.bool false)],none,[2,4]⟩,
 ⟨some 293,.mov,[.t 292],none,[5,2]⟩,
 ⟨some 294,.mov,[.t 32],(some (293,true)),[6]⟩,
 ⟨some 295,(.bin .eql),[.t 294,.c (.int .i64 0)],(some (293,true)),[7,6]⟩,
 ⟨some 296,.pick,[.t 293,.t 295,.c (.bool false)],none,[6,8]⟩,
 ⟨some 297,.mov,[.t 296],none,[9,6]⟩,
 ⟨some 298,(.faddr 1 false 1),[.t 27],(some (297,true)),[10]⟩,
 ⟨some 299,(.load false 1),[.t 298],(some (297,true)),[11,10]⟩,
 ⟨some 300,(.bin .eql),[.t 299,.c (.int .i64 0)],(some (297,true)),[12,10]⟩,
 ⟨some 301,.pick,[.t 297,.t 300,.c (.bool false)],none,[10,13]⟩,
 ⟨some 302,.mov,[.t 301],none,[14,10]⟩,
 ⟨some 303,(.faddr 2 false 1),[.t 27],(some (302,true)),[15]⟩,
 ⟨some 304,(.load false 1),[.t 303],(some (302,true)),[16,15]⟩,
 ⟨some 305,(.bin .eql),[.t 304,.c (.int .i64 0)],(some (302,true)),[17,15]⟩,
 ⟨some 306,.pick,[.t 302,.t 305,.c (.bool false)],none,[15,18]⟩,
 ⟨some 307,.mov,[.t 306],none,[19,15]⟩,
 ⟨some 308,(.faddr 0 false 1),[.t 31],(some (307,true)),[20]⟩,
 ⟨some 309,(.load false 1),[.t 308],(some (307,true)),[21,20]⟩,
 ⟨some 310,(.faddr 0 false 1),[.t 27],(some (307,true)),[20]⟩,
 ⟨some 311,(.load false 1),[.t 310],(some (307,true)),[23,20]⟩,
 ⟨some 312,(.bin .leq),[.t 309,.t 311],(some (307,true)),[22,24,20]⟩,
 ⟨some 313,.pick,[.t 307,.t 312,.c (.bool false)],none,[20,25]⟩,
 ⟨some 314,.mov,[.t 313],none,[26,20]⟩,
 ⟨some 315,(.faddr 0 false 1),[.t 31],(some (314,true)),[27]⟩,
 ⟨some 316,(.load false 1),[.t 315],(some (314,true)),[28,27]⟩,
 ⟨some 317,(.faddr 1 false 1),[.t 31],(some (314,true)),[27]⟩,
 ⟨some 318,(.load false 1),[.t 317],(some (314,true)),[30,27]⟩,
 ⟨some 319,(.bin .add),[.t 316,.t 318],(some (314,true)),[29,31,27]⟩,
 ⟨some 320,(.faddr 0 false 1),[.t 27],(some (314,true)),[27]⟩,
 ⟨some 321,(.load false 1),[.t 320],(some (314,true)),[33,27]⟩,
 ⟨some 322,(.bin .eql),[.t 319,.t 321],(some (314,true)),[32,34,27]⟩,
 ⟨some 323,.pick,[.t 314,.t 322,.c (.bool false)],none,[27,35]⟩,
 ⟨some 6,.mov,[.t 323],none,[36,27,0,1,2,3,4,5,6,7,8,9,10,11,12,13,14,15,16,17,18,19,20,21,22,23,24,25,26,27,28,29,30,31,32,33,34,35,36]⟩] false)
 .ret))))
def b3k9:DCode :=
 (.seq
 (.region [⟨some 246,.mov,[.t 22],none,[]⟩,
 ⟨some 247,(.faddr 3 false 1),[.t 5],none,[]⟩,
 ⟨some 248,(.load false 1),[.t 247],none,[1]⟩,
 ⟨some 249,.call,[.f 15,.t 248],none,[2]⟩,
 ⟨some 250,.call,[.f 19,.c (.int .i64 0),.t 246,.t 249],none,[0,3,3]⟩,
 ⟨some 245,.mov,[.t 250],none,[4]⟩,
 ⟨some 251,(.ext 0),[.t 245],none,[5]⟩,
 ⟨some 252,(.ext 1),[.t 245],none,[5]⟩,
 ⟨some 25,.movv,[.t 251],none,[6,4,0,1,2,3,4,5,6]⟩,
 ⟨some 26,.mov,[.t 252],none,[7,8,0,1,2,3,4,5,6,7,8]⟩] false)
 (.seq
 (.seq
 (.region [⟨some 253,.mov,[.t 26],none,[]⟩,
 ⟨some 254,(.bin .neq),[.t 253,.c (.int .i64 0)],none,[0]⟩,
 ⟨some 255,.mov,[.t 254],none,[1]⟩,
 ⟨some 256,.movv,[.t 25],(some (255,false)),[2]⟩,
 ⟨some 257,(.faddr 3 false 1),[.t 5],(some (255,false)),[2]⟩,
 ⟨some 258,(.load false 1),[.t 257],(some (255,false)),[4,2]⟩,
 ⟨some 259,.call,[.f 20,.t 256,.t 258],(some (255,false)),[3,5,2,2]⟩,
 ⟨some 260,(.un .not),[.t 259],(some (255,false)),[6,2]⟩,
 ⟨some 261,.pick,[.t 255,.c (.bool true),.t 260],none,[2,7]⟩] false)
 (.cond (.t 261)
 (.seq
 (.region [⟨some 6,.mov,[.c (.bool false)],none,[]⟩] false)
 .ret)
 .skip))
 (.keep [5,22,25] [5] b3k8)))
def b3k10:DCode :=
 (.seq
 (.seq
 (.region [⟨some 243,.mov,[.t 22],none,[]⟩,
 ⟨some 244,(.bin .gtr),[.t 243,.c (.int .i64 1000000)],none,[0]⟩] false)
 (.cond (.t 244)
 (.seq
 (.region [⟨some 6,.mov,[.c (.bool true)],none,[]⟩] false)
 .ret)
 .skip))
 (.keep [5,22] [5] b3k9))
def b3k11:DCode :=
 (.seq
 (.region [⟨some 22,.mov,[.c (.int .i64 0)],none,[]⟩,
 ⟨some 23,.mov,[.c (.int .i64 0)],none,[0,0]⟩] false)
 (.seq
 (.seq
 (.region [⟨some 24,.mov,[.c (.int .i64 0)],none,[]⟩] false)
 (.block 2
 (.loop b3l1)))
 (.keep [5,22] [5] b3k10)))
def b3k12:DCode :=
 (.seq
 (.region [⟨some 69,(.load true 3),[.t 3],none,[]⟩,
 ⟨some 70,.call,[.f 11,.t 69],none,[0]⟩,
 ⟨some 71,(.load true 4),[.t 4],none,[]⟩,
 ⟨some 72,.call,[.f 12,.t 71],none,[2,1]⟩,
 ⟨some 73,(.faddr 0 true 2),[.t 5],none,[]⟩,
 ⟨some 74,(.load true 2),[.t 73],none,[4]⟩,
 ⟨some 75,.call,[.f 10,.t 70,.t 72,.t 74],none,[1,3,5,3]⟩,
 ⟨some 68,.mov,[.t 75],none,[6]⟩,
 ⟨some 76,(.ext 0),[.t 68],none,[7]⟩,
 ⟨some 77,(.ext 1),[.t 68],none,[7]⟩,
 ⟨some 78,(.ext 2),[.t 68],none,[7]⟩,
 ⟨some 7,.movv,[.t 76],none,[8,6,0,1,2,3,4,5,6,7,8]⟩,
 ⟨some 8,.mov,[.t 77],none,[9,11,0,1,2,3,4,5,6,7,8,9,11]⟩,
 ⟨some 9,.mov,[.t 78],none,[10,12,0,1,2,3,4,5,6,7,8,9,10,11,12]⟩] true)
 (.seq
 (.region [⟨some 80,(.load true 3),[.t 3],none,[]⟩,
 ⟨some 81,.call,[.f 11,.t 80],none,[0]⟩,
 ⟨some 82,(.load true 4),[.t 4],none,[]⟩,
 ⟨some 83,.call,[.f 12,.t 82],none,[2,1]⟩,
 ⟨some 84,.call,[.f 13,.t 81,.t 83],none,[1,3,3]⟩,
 ⟨some 79,.mov,[.t 84],none,[4]⟩,
 ⟨some 85,(.ext 0),[.t 79],none,[5]⟩,
 ⟨some 86,(.ext 1),[.t 79],none,[5]⟩,
 ⟨some 87,(.ext 2),[.t 79],none,[5]⟩,
 ⟨some 10,.movv,[.t 85],none,[6,4,0,1,2,3,4,5,6]⟩,
 ⟨some 11,.mov,[.t 86],none,[7,9,0,1,2,3,4,5,6,7,9]⟩,
 ⟨some 12,.mov,[.t 87],none,[8,10,0,1,2,3,4,5,6,7,8,9,10]⟩] true)
 (.seq
 (.seq
 (.region [⟨some 88,.mov,[.t 9],none,[]⟩,
 ⟨some 89,(.bin .eql),[.t 88,.c (.int .i64 0)],none,[0]⟩] false)
 (.cond (.t 89)
 (.seq
 (.seq
 (.region [⟨some 90,.mov,[.t 12],none,[]⟩,
 ⟨some 91,(.bin .neq),[.t 90,.c (.int .i64 0)],none,[0]⟩,
 ⟨some 92,.mov,[.t 91],none,[1]⟩,
 ⟨some 93,.mov,[.t 8],(some (92,false)),[2]⟩,
 ⟨some 94,.mov,[.t 11],(some (92,false)),[2]⟩,
 ⟨some 95,(.bin .gtr),[.t 93,.t 94],(some (92,false)),[3,4,2]⟩,
 ⟨some 96,.pick,[.t 92,.c (.bool true),.t 95],none,[2,5]⟩,
 ⟨some 97,.mov,[.t 96],none,[6,2]⟩,
 ⟨some 98,.movv,[.t 10],(some (97,false)),[7]⟩,
 ⟨some 99,.len,[.t 98],(some (97,false)),[8,7]⟩,
 ⟨some 100,(.faddr 3 false 1),[.t 4],(some (97,false)),[7]⟩,
 ⟨some 101,(.load false 1),[.t 100],(some (97,false)),[10,7]⟩,
 ⟨some 102,.len,[.t 101],(some (97,false)),[11,7]⟩,
 ⟨some 103,(.bin .neq),[.t 99,.t 102],(some (97,false)),[9,12,7]⟩,
 ⟨some 104,.pick,[.t 97,.c (.bool true),.t 103],none,[7,13]⟩,
 ⟨some 105,.mov,[.t 104],none,[14,7]⟩,
 ⟨some 106,.movv,[.t 7],(some (105,false)),[15]⟩,
 ⟨some 107,.len,[.t 106],(some (105,false)),[16,15]⟩,
 ⟨some 108,(.faddr 3 false 1),[.t 4],(some (105,false)),[15]⟩,
 ⟨some 109,(.load false 1),[.t 108],(some (105,false)),[18,15]⟩,
 ⟨some 110,.len,[.t 109],(some (105,false)),[19,15]⟩,
 ⟨some 111,(.bin .neq),[.t 107,.t 110],(some (105,false)),[17,20,15]⟩,
 ⟨some 112,.pick,[.t 105,.c (.bool true),.t 111],none,[15,21]⟩] false)
 (.cond (.t 112)
 (.seq
 (.region [⟨some 6,.mov,[.c (.bool false)],none,[]⟩] false)
 .ret)
 .skip))
 (.keep [3,4,5,7,8] [3,4,5] b3k6))
 (.seq
 (.region [⟨some 219,.mov,[.t 9],none,[]⟩,
 ⟨some 220,(.bin .neq),[.t 219,.c (.int .i64 12)],none,[0]⟩] false)
 (.cond (.t 220)
 (.seq
 (.region [⟨some 6,.mov,[.c (.bool false)],none,[]⟩] false)
 .ret)
 .skip))))
 (.keep [5] [5] b3k11))))
def b3k13:DCode :=
 (.seq
 (.seq
 (.region [⟨some 35,(.load true 3),[.t 3],none,[]⟩,
 ⟨some 36,.call,[.f 5,.t 35],none,[0]⟩,
 ⟨some 37,(.un .not),[.t 36],none,[1]⟩,
 ⟨some 38,.mov,[.t 37],none,[2,1]⟩,
 ⟨some 39,(.load true 4),[.t 4],(some (38,false)),[3]⟩,
 ⟨some 40,.call,[.f 6,.t 39],(some (38,false)),[4,3,3]⟩,
 ⟨some 41,(.un .not),[.t 40],(some (38,false)),[5,3]⟩,
 ⟨some 42,.pick,[.t 38,.c (.bool true),.t 41],none,[3,6]⟩,
 ⟨some 43,.mov,[.t 42],none,[7,5]⟩,
 ⟨some 44,(.load true 3),[.t 3],(some (43,false)),[8]⟩,
 ⟨some 45,(.load true 4),[.t 4],(some (43,false)),[8]⟩,
 ⟨some 46,.call,[.f 7,.t 44,.t 45],(some (43,false)),[9,10,8,8]⟩,
 ⟨some 47,(.bin .neq),[.t 46,.c (.int .i64 0)],(some (43,false)),[11,8]⟩,
 ⟨some 48,.pick,[.t 43,.c (.bool true),.t 47],none,[8,12]⟩,
 ⟨some 49,.mov,[.t 48],none,[13,11]⟩,
 ⟨some 50,(.load true 3),[.t 3],(some (49,false)),[14]⟩,
 ⟨some 51,(.faddr 0 true 2),[.t 5],(some (49,false)),[14]⟩,
 ⟨some 52,(.load true 2),[.t 51],(some (49,false)),[16,14]⟩,
 ⟨some 53,.call,[.f 8,.t 50,.t 52],(some (49,false)),[15,17,14,14]⟩,
 ⟨some 54,(.bin .neq),[.t 53,.c (.int .i64 0)],(some (49,false)),[18,14]⟩,
 ⟨some 55,.pick,[.t 49,.c (.bool true),.t 54],none,[14,19]⟩,
 ⟨some 56,.mov,[.t 55],none,[20,18]⟩,
 ⟨some 57,(.faddr 3 false 1),[.t 5],(some (56,false)),[21]⟩,
 ⟨some 58,(.load false 1),[.t 57],(some (56,false)),[22,21]⟩,
 ⟨some 59,.len,[.t 58],(some (56,false)),[23,21]⟩,
 ⟨some 60,(.bin .gtr),[.t 59,.c (.int .i64 60)],(some (56,false)),[24,21]⟩,
 ⟨some 61,.pick,[.t 56,.c (.bool true),.t 60],none,[21,25]⟩,
 ⟨some 62,.mov,[.t 61],none,[26,21]⟩,
 ⟨some 63,(.faddr 3 false 1),[.t 5],(some (62,false)),[27]⟩,
 ⟨some 64,(.load false 1),[.t 63],(some (62,false)),[28,27]⟩,
 ⟨some 65,.call,[.f 9,.t 64],(some (62,false)),[29,27,27]⟩,
 ⟨some 66,(.bin .neq),[.t 65,.c (.int .i64 0)],(some (62,false)),[30,27]⟩,
 ⟨some 67,.pick,[.t 62,.c (.bool true),.t 66],none,[27,31]⟩] false)
 (.cond (.t 67)
 (.seq
 (.region [⟨some 6,.mov,[.c (.bool true)],none,[]⟩] false)
 .ret)
 .skip))
 (.keep [3,4,5] [3,4,5] b3k12))
def b3:DCode :=
 (.seq
 (.region [⟨some 3,.box,[.t 0],none,[]⟩,
 ⟨some 4,.box,[.t 1],none,[]⟩,
 ⟨some 5,.box,[.t 2],none,[]⟩,
 ⟨some 6,.mov,[.c (.bool false)],none,[]⟩] false)
 (.seq
 (.seq
 (.region [⟨some 33,.call,[.f 4],none,[]⟩,
 ⟨some 34,(.un .not),[.t 33],none,[0]⟩] false)
 (.cond (.t 34)
 (.seq
 (.region [⟨some 6,.mov,[.c (.bool false)],none,[]⟩] false)
 .ret)
 .skip))
 (.keep [3,4,5] [3,4,5] b3k13)))
def d3:DFn:=⟨3,324,[.tmp 6],b3⟩
theorem body3:d3.body=b3:=rfl
theorem res3:d3.res=[.tmp 6]:=rfl
theorem k3:chkFn Try.prog Try.f3 d3=true:=by kernel_rfl
end Go.DI

/- Contracts: hours, revenues, steps and holds of a valid task. No condition. -/
set_option linter.unusedSimpArgs false
namespace Go.DI
open Go.Proofs Go.RowKit
def wkC (w:Wk):List DV:=[.imm (.int .i64 w.lo),.imm (.int .i64 w.hi),.imm (.slc 4 (w.ms.map mdI)),.imm (.int .i64 w.vol),.imm (.int .i64 w.mode),.imm (.int .i64 w.worth),.imm (.slc 3 (w.hs.map hrI))]
theorem aft_bd {w:Wk} (ok:WkOk w) {v:Int} (hv:isVol w v) (h m:Nat) : -20000≤aft w v h m∧aft w v h m≤1020000:=by
 have h1:=(ok.hr h).2.2
 have h2:=(ok.md m).1
 have h3:=ok.lo; have h4:=ok.hi
 obtain ⟨v1,v2⟩:=hv
 unfold aft
 omega
theorem w_after {w:Wk} (ok:WkOk w) {v:Int} (hv:isVol w v) {h m:Nat} (hh:h<w.hs.length) (hm:m<w.ms.length):Contract Try.prog 54 [wkI w,.int .i64 v,.int .i64 h,.int .i64 m] (.int .i64 (aft w v h m)):=by
 have h1:=(ok.hr h).2.2
 have h2:=(ok.md m).1
 have h3:=ok.lo; have h4:=ok.hi
 obtain ⟨v1,v2⟩:=hv
 refine contract_run Try.func54 k54 rfl ?_
 simp only [body54,b54,res54,mdI,hrI,plI,tkI,wkI,hdI,snI, ↓reduceIte,reduceCtorEq,Nat.reduceEqDiff,Nat.reduceAdd,Nat.reduceMul,Nat.reduceSub,Nat.reduceLeDiff,Nat.reduceBEq,Int.reduceToNat,Int.reduceLE,Int.reduceLT,Int.reduceEq,Int.reduceNe,di]
 refine ⟨by omega,by omega,?_⟩
 rw [wrap64 (n:=v+(w.hs.getD h default).inf) (by omega) (by omega),wrap64 (by omega) (by omega)]
 rfl
theorem w_isVolume {w:Wk} {v:Int}:Contract Try.prog 55 [wkI w,.int .i64 v] (.bool (decide (isVol w v))):=by
 refine contract_run Try.func55 k55 rfl ?_
 simp only [body55,b55,res55,mdI,hrI,plI,tkI,wkI,hdI,snI, ↓reduceIte,reduceCtorEq,Nat.reduceEqDiff,Nat.reduceAdd,Nat.reduceMul,Nat.reduceSub,Nat.reduceLeDiff,Nat.reduceBEq,Int.reduceToNat,Int.reduceLE,Int.reduceLT,Int.reduceEq,Int.reduceNe,di]
 refine calls_of d_within ?_; simp only [mdI,hrI,plI,tkI,wkI,hdI,snI,res55, ↓reduceIte,reduceCtorEq,Nat.reduceEqDiff,Nat.reduceAdd,Nat.reduceMul,Nat.reduceSub,Nat.reduceLeDiff,Nat.reduceBEq,Int.reduceToNat,Int.reduceLE,Int.reduceLT,Int.reduceEq,Int.reduceNe,di]
 rfl
theorem w_isMode {w:Wk} {n:Int} (hl:w.ms.length≤1000000000):Contract Try.prog 28 [wkI w,.int .i64 n] (.bool (decide (Wi n 0 (w.ms.length - 1)))):=by
 refine contract_run Try.func28 k28 rfl ?_
 simp only [body28,b28,res28,mdI,hrI,plI,tkI,wkI,hdI,snI, ↓reduceIte,reduceCtorEq,Nat.reduceEqDiff,Nat.reduceAdd,Nat.reduceMul,Nat.reduceSub,Nat.reduceLeDiff,Nat.reduceBEq,Int.reduceToNat,Int.reduceLE,Int.reduceLT,Int.reduceEq,Int.reduceNe,di]
 rw [wrap64 (n:=(w.ms.length:Int) - 1) (by omega) (by omega)]
 refine calls_of d_within ?_; simp only [mdI,hrI,plI,tkI,wkI,hdI,snI,res28, ↓reduceIte,reduceCtorEq,Nat.reduceEqDiff,Nat.reduceAdd,Nat.reduceMul,Nat.reduceSub,Nat.reduceLeDiff,Nat.reduceBEq,Int.reduceToNat,Int.reduceLE,Int.reduceLT,Int.reduceEq,Int.reduceNe,di]
def cellW (w:Wk) (v:Int) (m:Nat):Nat:=(v - w.lo).toNat * w.ms.length+m
def sizeW (w:Wk):Nat:=(w.hi - w.lo+1).toNat * w.ms.length
theorem cell_lt {w:Wk} {v:Int} (hv:isVol w v) {m:Nat} (hm:m<w.ms.length):cellW w v m<sizeW w:=by
 obtain ⟨v1,v2⟩:=hv
 have e:(v - w.lo).toNat+1≤(w.hi - w.lo+1).toNat:=by omega
 have:=Nat.mul_le_mul_right w.ms.length e
 unfold cellW sizeW
 rw [Nat.add_mul] at this
 omega
theorem size_bd {w:Wk} (ok:WkOk w):sizeW w≤200:=by
 have h1:=ok.m5; have h2:=ok.span
 have:=Nat.mul_le_mul (show (w.hi - w.lo+1).toNat≤40 by omega) h1
 unfold sizeW
 omega
theorem cell_int {w:Wk} {v:Int} (hv:isVol w v) (m:Nat):(v - w.lo) * w.ms.length+m=(cellW w v m:Int):=by
 obtain ⟨v1,v2⟩:=hv
 unfold cellW
 rw [Int.natCast_add,Int.natCast_mul,Int.toNat_of_nonneg (by omega)]
theorem w_cell {w:Wk} (ok:WkOk w) {v:Int} (hv:isVol w v) {m:Nat} (hm:m<w.ms.length):Contract Try.prog 39 [wkI w,.int .i64 v,.int .i64 m] (.int .i64 (cellW w v m:Nat)):=by
 have h3:=ok.lo; have h4:=ok.hi; have h5:=ok.m5; have h6:=ok.span
 have hc:=cell_lt hv hm
 have hz:=size_bd ok
 have hi:=cell_int hv m
 have hb:=mul_bd (a:=v - w.lo) (b:=w.ms.length) (A:=40) (B:=5) (by have:=hv.1; have:=hv.2; omega) (by omega)
 obtain ⟨v1,v2⟩:=hv
 refine contract_run Try.func39 k39 rfl ?_
 simp only [body39,b39,res39,mdI,hrI,plI,tkI,wkI,hdI,snI, ↓reduceIte,reduceCtorEq,Nat.reduceEqDiff,Nat.reduceAdd,Nat.reduceMul,Nat.reduceSub,Nat.reduceLeDiff,Nat.reduceBEq,Int.reduceToNat,Int.reduceLE,Int.reduceLT,Int.reduceEq,Int.reduceNe,di]
 rw [wrap64 (n:=v - w.lo) (by omega) (by omega),wrap64 (n:=(v - w.lo) * w.ms.length) (by omega) (by omega),hi,wrap64 (by omega) (by omega)]
theorem d_isValue {n:Int}:Contract Try.prog 40 [.int .i64 n] (.bool (decide (-50000000000<n))):=by
 refine contract_run Try.func40 k40 rfl ?_
 simp only [body40,b40,res40,mdI,hrI,plI,tkI,wkI,hdI,snI, ↓reduceIte,reduceCtorEq,Nat.reduceEqDiff,Nat.reduceAdd,Nat.reduceMul,Nat.reduceSub,Nat.reduceLeDiff,Nat.reduceBEq,Int.reduceToNat,Int.reduceLE,Int.reduceLT,Int.reduceEq,Int.reduceNe,di]
theorem w_revenue {w:Wk} (ok:WkOk w) {h b m:Nat} (hh:h<w.hs.length) (hm:m<w.ms.length):Contract Try.prog 42 [wkI w,.int .i64 h,.int .i64 b,.int .i64 m] (.int .i64 (revW w h b m)):=by
 have h1:=price_bd ok h m
 have h2:=rev_bd ok h b m
 unfold revW at h2 ⊢
 refine contract_run Try.func42 k42 rfl ?_
 simp only [body42,b42,res42,b42k0,b42k1,mdI,hrI,plI,tkI,wkI,hdI,snI, ↓reduceIte,reduceCtorEq,Nat.reduceEqDiff,Nat.reduceAdd,Nat.reduceMul,Nat.reduceSub,Nat.reduceLeDiff,Nat.reduceBEq,Int.reduceToNat,Int.reduceLE,Int.reduceLT,Int.reduceEq,Int.reduceNe,di]
 refine ⟨by omega,by omega,?_⟩
 have hst:=(ok.md m).2.2
 by_cases g1 : 0<(w.ms.getD m default).en
 ·rw [if_pos g1] at h1 h2
  rw [if_pos g1,if_pos g1]
  generalize (w.ms.getD m default).en * (w.hs.getD h default).sell=q at *
  by_cases g2:b=m
  ·rw [if_pos (by omega),if_pos g2,wrap64 (by omega) (by omega),Int.sub_zero]
  ·rw [if_neg (by omega),if_neg g2,wrap64 (n:=q) (by omega) (by omega),wrap64 (by omega) (by omega)]
 ·rw [if_neg g1] at h1 h2
  rw [if_neg g1,if_neg g1]
  generalize (w.ms.getD m default).en * (w.hs.getD h default).buy=q at *
  by_cases g2:b=m
  ·rw [if_pos (by omega),if_pos g2,wrap64 (by omega) (by omega),Int.sub_zero]
  ·rw [if_neg (by omega),if_neg g2,wrap64 (n:=q) (by omega) (by omega),wrap64 (by omega) (by omega)]
theorem givenN_succ {w:Wk} {m k:Nat} {v:Int}:givenN w m (k+1) v=if isVol w (aft w v (w.hs.length - (k+1)) m) then givenN w m k (aft w v (w.hs.length - (k+1)) m)+1 else 0:=rfl
theorem w_given {w:Wk} (ok:WkOk w) {v:Int} (hv:isVol w v) {h m:Nat} (hh:h≤w.hs.length) (hm:m<w.ms.length):Contract Try.prog 63 [wkI w,.int .i64 v,.int .i64 h,.int .i64 m] (.int .i64 (givenN w m (w.hs.length - h) v:Nat)):=by
 have h10:=ok.h10
 refine contract_run Try.func63 k63 rfl ?_
 simp only [body63,b63,res63,b63k0,b63k1,b63k2,mdI,hrI,plI,tkI,wkI,hdI,snI, ↓reduceIte,reduceCtorEq,Nat.reduceEqDiff,Nat.reduceAdd,Nat.reduceMul,Nat.reduceSub,Nat.reduceLeDiff,Nat.reduceBEq,Int.reduceToNat,Int.reduceLE,Int.reduceLT,Int.reduceEq,Int.reduceNe,di]
 refine loop_keep (α:=Nat × Int) rfl (fun q=>w.hs.length - q.1) (fun q=>h+q.1≤w.hs.length∧isVol w q.2∧givenN w m (w.hs.length - h) v=q.1+givenN w m (w.hs.length - (h+q.1)) q.2)
  (fun q=>[(1,.imm (.int .i64 q.2)),(2,.imm (.int .i64 h)),(3,.imm (.int .i64 m)),(4,.ref 4 0),(9,.imm (.int .i64 q.1))])
  (fun _=>[(4,.box (wkC w))]) (0,v) ⟨hh,hv,by simp⟩ (by simp only [wkC,mdI,hrI,plI,tkI,wkI,hdI,snI, ↓reduceIte,reduceCtorEq,Nat.reduceEqDiff,Nat.reduceAdd,Nat.reduceMul,Nat.reduceSub,Nat.reduceLeDiff,Nat.reduceBEq,Int.reduceToNat,Int.reduceLE,Int.reduceLT,Int.reduceEq,Int.reduceNe,di] <;> rfl) ?_
 rintro ⟨n,u⟩ ⟨hn,hu,he⟩ ih
 dsimp only at hn hu he ⊢
 simp only [wkC,res63,b63k0,b63k1,b63k2,mdI,hrI,plI,tkI,wkI,hdI,snI, ↓reduceIte,reduceCtorEq,Nat.reduceEqDiff,Nat.reduceAdd,Nat.reduceMul,Nat.reduceSub,Nat.reduceLeDiff,Nat.reduceBEq,Int.reduceToNat,Int.reduceLE,Int.reduceLT,Int.reduceEq,Int.reduceNe,di]
 rw [wrap64 (n:=(h:Int)+n) (by omega) (by omega)]
 split
 ·rename_i h1
  have hlt:h+n<w.hs.length:=by omega
  have ha:=w_after ok hu (h:=h+n) hlt hm
  rw [show ((h+n:Nat):Int)=(h:Int)+n by omega] at ha
  simp only [wkI] at ha
  have hvv:=w_isVolume (w:=w) (v:=aft w u (h+n) m)
  simp only [wkI] at hvv
  refine calls_of ha ?_; simp only [mdI,hrI,plI,tkI,wkI,hdI,snI,res63,b63k0,b63k1,b63k2, ↓reduceIte,reduceCtorEq,Nat.reduceEqDiff,Nat.reduceAdd,Nat.reduceMul,Nat.reduceSub,Nat.reduceLeDiff,Nat.reduceBEq,Int.reduceToNat,Int.reduceLE,Int.reduceLT,Int.reduceEq,Int.reduceNe,di]
  refine calls_of hvv ?_; simp only [mdI,hrI,plI,tkI,wkI,hdI,snI,res63,b63k0,b63k1,b63k2, ↓reduceIte,reduceCtorEq,Nat.reduceEqDiff,Nat.reduceAdd,Nat.reduceMul,Nat.reduceSub,Nat.reduceLeDiff,Nat.reduceBEq,Int.reduceToNat,Int.reduceLE,Int.reduceLT,Int.reduceEq,Int.reduceNe,di]
  rw [show w.hs.length - (h+n)=(w.hs.length - (h+(n+1)))+1 by omega,givenN_succ,show w.hs.length - (w.hs.length - (h+(n+1))+1)=h+n by omega] at he
  split
  ·rename_i h2
   rw [if_pos h2] at he
   rw [wrap64 (n:=(n:Int)+1) (by omega) (by omega)]
   exact ih (n+1,aft w u (h+n) m) _ _ (by dsimp only; omega) ⟨by dsimp only; omega,h2,by dsimp only; omega⟩ (by simp only [wkC,mdI,hrI,plI,tkI,wkI,hdI,snI, ↓reduceIte,reduceCtorEq,Nat.reduceEqDiff,Nat.reduceAdd,Nat.reduceMul,Nat.reduceSub,Nat.reduceLeDiff,Nat.reduceBEq,Int.reduceToNat,Int.reduceLE,Int.reduceLT,Int.reduceEq,Int.reduceNe,di] <;> rfl)
  ·rename_i h2
   rw [if_neg h2] at he
   rw [he]
   rfl
 ·rename_i h1
  have e:w.hs.length - (h+n)=0:=by omega
  rw [he,e]
  rfl
theorem w_holds {w:Wk} (ok:WkOk w) {x:Hld} (hx:x.mode<0∨(0≤x.mode∧x.mode<w.ms.length)) {v:Int} (hv:isVol w v) {h:Nat} (hh:h≤w.hs.length):Contract Try.prog 52 [wkI w,.int .i64 v,.int .i64 h,hdI x] (.bool (decide (holdsW w x (w.hs.length - h) v))):=by
 have h10:=ok.h10
 unfold holdsW
 refine contract_run Try.func52 k52 rfl ?_
 simp only [body52,b52,res52,mdI,hrI,plI,tkI,wkI,hdI,snI, ↓reduceIte,reduceCtorEq,Nat.reduceEqDiff,Nat.reduceAdd,Nat.reduceMul,Nat.reduceSub,Nat.reduceLeDiff,Nat.reduceBEq,Int.reduceToNat,Int.reduceLE,Int.reduceLT,Int.reduceEq,Int.reduceNe,di]
 by_cases g:x.mode<0
 case pos =>
  simp only [g,true_or,decide_true,res52, ↓reduceIte,reduceCtorEq,Nat.reduceEqDiff,Nat.reduceAdd,Nat.reduceMul,Nat.reduceSub,Nat.reduceLeDiff,Nat.reduceBEq,Int.reduceToNat,Int.reduceLE,Int.reduceLT,Int.reduceEq,Int.reduceNe,di]
 have hm:x.mode.toNat<w.ms.length:=by omega
 have hg:=w_given ok hv hh hm
 rw [show ((x.mode.toNat:Nat):Int)=x.mode by omega] at hg
 simp only [wkI] at hg
 simp only [g, ↓reduceIte,reduceCtorEq,Nat.reduceEqDiff,Nat.reduceAdd,Nat.reduceMul,Nat.reduceSub,Nat.reduceLeDiff,Nat.reduceBEq,Int.reduceToNat,Int.reduceLE,Int.reduceLT,Int.reduceEq,Int.reduceNe,di]
 refine calls_of hg ?_; simp only [mdI,hrI,plI,tkI,wkI,hdI,snI,res52, ↓reduceIte,reduceCtorEq,Nat.reduceEqDiff,Nat.reduceAdd,Nat.reduceMul,Nat.reduceSub,Nat.reduceLeDiff,Nat.reduceBEq,Int.reduceToNat,Int.reduceLE,Int.reduceLT,Int.reduceEq,Int.reduceNe,di]
 rw [wrap64 (by omega) (by omega),show ((w.hs.length - h:Nat):Int)=(w.hs.length:Int) - h by omega]
 simp only [false_or]
def stF (w:Wk) (v:Int) (h m:Nat):Option (Nat × Int):=if isVol w (aft w v h m) then some (m,aft w v h m) else none
def stL (w:Wk) (v:Int) (h i k:Nat):List (Nat × Int):=(List.range' i k).filterMap (stF w v h)
def stpI (x:Nat × Int):List IV:=[.int .i64 x.1,.int .i64 x.2]
theorem stL_succ {w:Wk} {v:Int} {h i k:Nat}:stL w v h i (k+1)=if isVol w (aft w v h i) then (i,aft w v h i) :: stL w v h (i+1) k else stL w v h (i+1) k:=by
 unfold stL
 rw [List.range'_succ,List.filterMap_cons]
 unfold stF
 split
 ·rename_i h1
  split at h1
  ·cases h1
  ·rename_i h2; rw [if_neg h2]
 ·rename_i h1
  split at h1
  ·rename_i h2
   cases h1
   rw [if_pos h2]
  ·cases h1
def stpF (w:Wk) (v:Int) (h:Nat):IV:=.func 53 [] [.ptr (wkI w),.ptr (.agg [.int .i64 v]),.ptr (.agg [.int .i64 h])]
theorem w_steps {w:Wk} {v:Int} {h:Nat}:Contract Try.prog 41 [wkI w,.int .i64 v,.int .i64 h] (stpF w v h):=by
 unfold stpF
 refine contract_run Try.func41 k41 rfl ?_
 simp only [body41,b41,res41,mdI,hrI,plI,tkI,wkI,hdI,snI, ↓reduceIte,reduceCtorEq,Nat.reduceEqDiff,Nat.reduceAdd,Nat.reduceMul,Nat.reduceSub,Nat.reduceLeDiff,Nat.reduceBEq,Int.reduceToNat,Int.reduceLE,Int.reduceLT,Int.reduceEq,Int.reduceNe,di]
theorem it_steps {w:Wk} (ok:WkOk w) {v:Int} (hv:isVol w v) {h:Nat} (hh:h<w.hs.length) (l:Nat) :
  BC Try.prog 53 [.yld l,.imm (.ptr (wkI w)),.imm (.ptr (.agg [.int .i64 v])),.imm (.ptr (.agg [.int .i64 h]))] (lookR [(0,.seq l (false,some ((stL w v h 0 w.ms.length).map stpI)))]) fun _ R'=>seqOver l false R':=by
 have h5:=ok.m5
 refine bc_run Try.func53 k53 rfl rfl ?_
 simp only [body53,b53,res53,b53k0,b53k1,mdI,hrI,plI,tkI,wkI,hdI,snI, ↓reduceIte,reduceCtorEq,Nat.reduceEqDiff,Nat.reduceAdd,Nat.reduceMul,Nat.reduceSub,Nat.reduceLeDiff,Nat.reduceBEq,Int.reduceToNat,Int.reduceLE,Int.reduceLT,Int.reduceEq,Int.reduceNe,di]
 refine loop_keep (α:=Nat) rfl (fun i=>w.ms.length - i) (fun i=>i≤w.ms.length)
  (fun i=>[(0,.yld l),(1,.imm (.ptr (wkI w))),(2,.imm (.ptr (.agg [.int .i64 v]))),(3,.imm (.ptr (.agg [.int .i64 h]))),(10,.imm (.int .i64 w.ms.length)),(11,.imm (.int .i64 i))])
  (fun i=>[(0,.seq l (false,some ((stL w v h i (w.ms.length - i)).map stpI)))]) 0 (Nat.zero_le _) (by simp only [mdI,hrI,plI,tkI,wkI,hdI,snI, ↓reduceIte,reduceCtorEq,Nat.reduceEqDiff,Nat.reduceAdd,Nat.reduceMul,Nat.reduceSub,Nat.reduceLeDiff,Nat.reduceBEq,Int.reduceToNat,Int.reduceLE,Int.reduceLT,Int.reduceEq,Int.reduceNe,di] <;> rfl) ?_
 intro i hi ih
 simp only [res53,b53k0,b53k1,mdI,hrI,plI,tkI,wkI,hdI,snI, ↓reduceIte,reduceCtorEq,Nat.reduceEqDiff,Nat.reduceAdd,Nat.reduceMul,Nat.reduceSub,Nat.reduceLeDiff,Nat.reduceBEq,Int.reduceToNat,Int.reduceLE,Int.reduceLT,Int.reduceEq,Int.reduceNe,di]
 split
 ·rename_i h1
  have hlt:i<w.ms.length:=by omega
  have ha:=w_after ok hv hh hlt
  simp only [wkI] at ha
  have hvv:=w_isVolume (w:=w) (v:=aft w v h i)
  simp only [wkI] at hvv
  refine calls_of ha ?_; simp only [mdI,hrI,plI,tkI,wkI,hdI,snI,res53,b53k0,b53k1, ↓reduceIte,reduceCtorEq,Nat.reduceEqDiff,Nat.reduceAdd,Nat.reduceMul,Nat.reduceSub,Nat.reduceLeDiff,Nat.reduceBEq,Int.reduceToNat,Int.reduceLE,Int.reduceLT,Int.reduceEq,Int.reduceNe,di]
  refine calls_of hvv ?_; simp only [mdI,hrI,plI,tkI,wkI,hdI,snI,res53,b53k0,b53k1, ↓reduceIte,reduceCtorEq,Nat.reduceEqDiff,Nat.reduceAdd,Nat.reduceMul,Nat.reduceSub,Nat.reduceLeDiff,Nat.reduceBEq,Int.reduceToNat,Int.reduceLE,Int.reduceLT,Int.reduceEq,Int.reduceNe,di]
  rw [show w.ms.length - i=(w.ms.length - (i+1))+1 by omega,stL_succ]
  by_cases h2:isVol w (aft w v h i)
  ·simp only [h2,List.map_cons, ↓reduceIte,reduceCtorEq,Nat.reduceEqDiff,Nat.reduceAdd,Nat.reduceMul,Nat.reduceSub,Nat.reduceLeDiff,Nat.reduceBEq,Int.reduceToNat,Int.reduceLE,Int.reduceLT,Int.reduceEq,Int.reduceNe,di]
   refine do_yield rfl rfl rfl ?_ ?_
   ·intro _
    simp only [res53,b53k0,b53k1,mdI,hrI,plI,tkI,wkI,hdI,snI, ↓reduceIte,reduceCtorEq,Nat.reduceEqDiff,Nat.reduceAdd,Nat.reduceMul,Nat.reduceSub,Nat.reduceLeDiff,Nat.reduceBEq,Int.reduceToNat,Int.reduceLE,Int.reduceLT,Int.reduceEq,Int.reduceNe,di]
    rw [wrap64 (by omega) (by omega)]
    exact ih (i+1) _ _ (by omega) (by omega) (by simp only [mdI,hrI,plI,tkI,wkI,hdI,snI, ↓reduceIte,reduceCtorEq,Nat.reduceEqDiff,Nat.reduceAdd,Nat.reduceMul,Nat.reduceSub,Nat.reduceLeDiff,Nat.reduceBEq,Int.reduceToNat,Int.reduceLE,Int.reduceLT,Int.reduceEq,Int.reduceNe,di] <;> rfl)
   ·simp only [res53,b53k0,b53k1,mdI,hrI,plI,tkI,wkI,hdI,snI, ↓reduceIte,reduceCtorEq,Nat.reduceEqDiff,Nat.reduceAdd,Nat.reduceMul,Nat.reduceSub,Nat.reduceLeDiff,Nat.reduceBEq,Int.reduceToNat,Int.reduceLE,Int.reduceLT,Int.reduceEq,Int.reduceNe,di]
    rw [outD_nil res53]
    exact ⟨_,rfl,rfl,.inr rfl⟩
  ·simp only [h2,res53,b53k0,b53k1, ↓reduceIte,reduceCtorEq,Nat.reduceEqDiff,Nat.reduceAdd,Nat.reduceMul,Nat.reduceSub,Nat.reduceLeDiff,Nat.reduceBEq,Int.reduceToNat,Int.reduceLE,Int.reduceLT,Int.reduceEq,Int.reduceNe,di]
   rw [wrap64 (by omega) (by omega)]
   exact ih (i+1) _ _ (by omega) (by omega) (by simp only [mdI,hrI,plI,tkI,wkI,hdI,snI, ↓reduceIte,reduceCtorEq,Nat.reduceEqDiff,Nat.reduceAdd,Nat.reduceMul,Nat.reduceSub,Nat.reduceLeDiff,Nat.reduceBEq,Int.reduceToNat,Int.reduceLE,Int.reduceLT,Int.reduceEq,Int.reduceNe,di] <;> rfl)
 ·rename_i h1
  have hie:w.ms.length - i=0:=by omega
  rw [outD_nil res53,hie]
  exact ⟨_,rfl,rfl,.inl ⟨rfl,rfl⟩⟩
theorem volsW_at (w:Wk):∀ (h:Nat) (v:Int) (l:List Nat) (i:Nat),i<l.length→(volsW w h v l).getD (i+1) 0=aft w ((volsW w h v l).getD i 0) (h+i) (l.getD i 0)
 | _,_,[],_,hi=>by cases hi
 | h,v,m :: r,0,_=>by
  cases r <;> rfl
 | h,v,m :: r,i+1,hi=>by
  have:=volsW_at w (h+1) (aft w v h m) r i (by simpa using hi)
  rw [show h+1+i=h+(i+1) by omega] at this
  exact this
def pnI (l:List Nat):IV:=.slc 1 (l.map fun m:Nat=>IV.int .i64 (m:Int))
theorem w_volumes {w:Wk} (ok:WkOk w) {plan:List Nat} (hl:plan.length=w.hs.length) (hp:∀ m ∈ plan,m<w.ms.length) (hv:∀ u ∈ volsW w 0 w.vol plan,isVol w u) :
  Contract Try.prog 45 [wkI w,pnI plan] (.tup [.slc 1 ((volsW w 0 w.vol plan).map (.int .i64)),.bool true]):=by
 have h0:=ok.h0; have h10:=ok.h10
 refine contract_run Try.func45 k45 rfl ?_
 simp only [body45,b45,res45,b45k0,b45k1,b45k2,b45k3,pnI,mdI,hrI,plI,tkI,wkI,hdI,snI, ↓reduceIte,reduceCtorEq,Nat.reduceEqDiff,Nat.reduceAdd,Nat.reduceMul,Nat.reduceSub,Nat.reduceLeDiff,Nat.reduceBEq,Int.reduceToNat,Int.reduceLE,Int.reduceLT,Int.reduceEq,Int.reduceNe,di]
 have hV:=volsW_len w 0 w.vol plan
 have h1 : 0<plan.length:=by omega
 have hm:∀ i,i<plan.length→plan.getD i default<w.ms.length:=fun i hi=>hp _ (getD_mem hi)
 have hu:∀ i,i<plan.length+1→isVol w ((volsW w 0 w.vol plan).getD i default):=fun i hi=>hv _ (getD_mem (by omega))
 have ha:∀ i,i<plan.length→(volsW w 0 w.vol plan).getD (i+1) default=aft w ((volsW w 0 w.vol plan).getD i default) i (plan.getD i default):=fun i hi=>by
  have:=volsW_at w 0 w.vol plan i hi
  rw [Nat.zero_add] at this
  exact this
 have hz:(volsW w 0 w.vol plan).getD 0 default=w.vol:=by cases plan <;> rfl
 have ht:∀ i,i<plan.length→((volsW w 0 w.vol plan).take (i+1+1)).map (IV.int .i64)=((volsW w 0 w.vol plan).take (i+1)).map (IV.int .i64) ++ [IV.int .i64 (aft w ((volsW w 0 w.vol plan).getD i default) i (plan.getD i default))]:=fun i hi=>by
  rw [List.take_add_one (i:=i+1),List.map_append,← ha i hi,List.getD_eq_getElem?_getD,List.getElem?_eq_getElem (by omega)]
  rfl
 have ht0:((volsW w 0 w.vol plan).take 1).map (IV.int .i64)=[IV.int .i64 w.vol]:=by cases plan <;> rfl
 have call:∀ i,i<plan.length→Contract Try.prog 54 [wkI w,.int .i64 ((volsW w 0 w.vol plan).getD i default),.int .i64 i,.int .i64 (plan.getD i default:Nat)] (.int .i64 ((volsW w 0 w.vol plan).getD (i+1) default)):=fun i hi=>by
  rw [ha i hi]
  exact w_after ok (hu i (by omega)) (by omega) (hm i hi)
 have isv:∀ i,i<plan.length+1→Contract Try.prog 55 [wkI w,.int .i64 ((volsW w 0 w.vol plan).getD i default)] (.bool true):=fun i hi=>by
  have:=w_isVolume (w:=w) (v:=(volsW w 0 w.vol plan).getD i default)
  rw [decide_eq_true (hu i hi)] at this
  exact this
 have ht:∀ i,i<plan.length→((volsW w 0 w.vol plan).take (i+1+1)).map (IV.int .i64)=((volsW w 0 w.vol plan).take (i+1)).map (IV.int .i64) ++ [IV.int .i64 ((volsW w 0 w.vol plan).getD (i+1) default)]:=fun i hi=>by
  rw [ha i hi]
  exact ht i hi
 have hg:∀ i,i<plan.length→((volsW w 0 w.vol plan).take (i+1)).getD i default=(volsW w 0 w.vol plan).getD i default:=fun i hi=>by
  rw [List.getD_eq_getElem?_getD,List.getElem?_take_of_lt (by omega),← List.getD_eq_getElem?_getD]
 have c0:=call 0 h1
 have v0:=isv 1 (by omega)
 have t0:=ht 0 h1
 rw [hz] at c0
 rw [ht0] at t0
 generalize volsW w 0 w.vol plan=V at *
 simp only [wkI] at call isv c0 v0
 refine run_round rfl ?_
 simp only [res45,b45k0,b45k1,b45k2,b45k3,List.getD_cons_zero,pnI,mdI,hrI,plI,tkI,wkI,hdI,snI, ↓reduceIte,reduceCtorEq,Nat.reduceEqDiff,Nat.reduceAdd,Nat.reduceMul,Nat.reduceSub,Nat.reduceLeDiff,Nat.reduceBEq,Int.reduceToNat,Int.reduceLE,Int.reduceLT,Int.reduceEq,Int.reduceNe,di]
 rw [if_pos (by omega)]
 refine ⟨by omega,by decide,?_⟩
 refine calls_of c0 ?_; simp only [mdI,hrI,plI,tkI,wkI,hdI,snI,res45,b45k0,b45k1,b45k2,b45k3, ↓reduceIte,reduceCtorEq,Nat.reduceEqDiff,Nat.reduceAdd,Nat.reduceMul,Nat.reduceSub,Nat.reduceLeDiff,Nat.reduceBEq,Int.reduceToNat,Int.reduceLE,Int.reduceLT,Int.reduceEq,Int.reduceNe,di]
 refine calls_of v0 ?_; simp only [mdI,hrI,plI,tkI,wkI,hdI,snI,res45,b45k0,b45k1,b45k2,b45k3, ↓reduceIte,reduceCtorEq,Nat.reduceEqDiff,Nat.reduceAdd,Nat.reduceMul,Nat.reduceSub,Nat.reduceLeDiff,Nat.reduceBEq,Int.reduceToNat,Int.reduceLE,Int.reduceLT,Int.reduceEq,Int.reduceNe,di]
 rw [wrap64 (n:=0+1) (by omega) (by omega)]
 refine loop_keep (α:=Nat) rfl (fun i=>plan.length - i) (fun i=>1≤i∧i≤plan.length)
  (fun i=>[(2,.ref 2 0),(6,.own 36),(14,.imm (pnI plan)),(15,.imm (.int .i64 plan.length)),(16,.imm (.int .i64 i))])
  (fun i=>[(2,.box (wkC w)),(36,.tok 1 ((V.take (i+1)).map (IV.int .i64)))]) 1 ⟨Nat.le_refl _,h1⟩ (by rw [t0]; simp only [wkC,pnI,mdI,hrI,plI,tkI,wkI,hdI,snI, ↓reduceIte,reduceCtorEq,Nat.reduceEqDiff,Nat.reduceAdd,Nat.reduceMul,Nat.reduceSub,Nat.reduceLeDiff,Nat.reduceBEq,Int.reduceToNat,Int.reduceLE,Int.reduceLT,Int.reduceEq,Int.reduceNe,di] <;> rfl) ?_
 rintro i ⟨hi1,hi⟩ ih
 simp only [wkC,pnI,res45,b45k0,b45k1,b45k2,b45k3,mdI,hrI,plI,tkI,wkI,hdI,snI, ↓reduceIte,reduceCtorEq,Nat.reduceEqDiff,Nat.reduceAdd,Nat.reduceMul,Nat.reduceSub,Nat.reduceLeDiff,Nat.reduceBEq,Int.reduceToNat,Int.reduceLE,Int.reduceLT,Int.reduceEq,Int.reduceNe,di]
 split
 ·rename_i h2
  have hlt:i<plan.length:=by omega
  have hlen:(V.take (i+1)).length=i+1:=by rw [List.length_take]; omega
  have c1:=call i hlt
  have v1:=isv (i+1) (by omega)
  rw [hlen]
  repeat (refine And.intro (by omega) ?_)
  rw [show (V.take (i+1)).getD i 0=V.getD i default from hg i hlt]
  refine calls_of c1 ?_; simp only [mdI,hrI,plI,tkI,wkI,hdI,snI,res45,b45k0,b45k1,b45k2,b45k3, ↓reduceIte,reduceCtorEq,Nat.reduceEqDiff,Nat.reduceAdd,Nat.reduceMul,Nat.reduceSub,Nat.reduceLeDiff,Nat.reduceBEq,Int.reduceToNat,Int.reduceLE,Int.reduceLT,Int.reduceEq,Int.reduceNe,di]
  refine calls_of v1 ?_; simp only [mdI,hrI,plI,tkI,wkI,hdI,snI,res45,b45k0,b45k1,b45k2,b45k3, ↓reduceIte,reduceCtorEq,Nat.reduceEqDiff,Nat.reduceAdd,Nat.reduceMul,Nat.reduceSub,Nat.reduceLeDiff,Nat.reduceBEq,Int.reduceToNat,Int.reduceLE,Int.reduceLT,Int.reduceEq,Int.reduceNe,di]
  repeat (refine And.intro (by omega) ?_)
  rw [wrap64 (n:=(i:Int)+1) (by omega) (by omega)]
  refine ih (i+1) _ _ (by omega) ⟨by omega,by omega⟩ ?_
  rw [ht i hlt]
  simp only [wkC,pnI,mdI,hrI,plI,tkI,wkI,hdI,snI, ↓reduceIte,reduceCtorEq,Nat.reduceEqDiff,Nat.reduceAdd,Nat.reduceMul,Nat.reduceSub,Nat.reduceLeDiff,Nat.reduceBEq,Int.reduceToNat,Int.reduceLE,Int.reduceLT,Int.reduceEq,Int.reduceNe,di] <;> rfl
 ·rename_i h2
  have hie:i=plan.length:=by omega
  rw [List.take_of_length_le (by omega)]
theorem d_isModeN {w:Wk} (hl:w.ms.length≤1000000000) {m:Nat} (hm:m<w.ms.length):Contract Try.prog 44 [.int .i64 m,.ptr (wkI w)] (.bool false):=by
 have h:=w_isMode (w:=w) (n:=m) hl
 rw [decide_eq_true (show Wi (m:Int) 0 (w.ms.length - 1) from ⟨by omega,by omega⟩)] at h
 simp only [wkI] at h
 refine contract_run Try.func44 k44 rfl ?_
 simp only [body44,b44,res44,mdI,hrI,plI,tkI,wkI,hdI,snI, ↓reduceIte,reduceCtorEq,Nat.reduceEqDiff,Nat.reduceAdd,Nat.reduceMul,Nat.reduceSub,Nat.reduceLeDiff,Nat.reduceBEq,Int.reduceToNat,Int.reduceLE,Int.reduceLT,Int.reduceEq,Int.reduceNe,di]
 refine calls_of h ?_; simp only [mdI,hrI,plI,tkI,wkI,hdI,snI,res44, ↓reduceIte,reduceCtorEq,Nat.reduceEqDiff,Nat.reduceAdd,Nat.reduceMul,Nat.reduceSub,Nat.reduceLeDiff,Nat.reduceBEq,Int.reduceToNat,Int.reduceLE,Int.reduceLT,Int.reduceEq,Int.reduceNe,di]
theorem d_IndexN {g:FuncId} {caps:List IV} {l:List Nat} (hl:l.length≤1000000000) (hp:∀ x ∈ l,Contract Try.prog g (.int .i64 (x:Int) :: caps) (.bool false)) :
  Contract Try.prog 56 [pnI l,.func g [] caps] (.int .i64 (-1)):=by
 unfold pnI
 refine contract_run Try.func56 k56 rfl ?_
 simp only [body56,b56,res56,b56k0,b56k1,b56k2,mdI,hrI,plI,tkI,wkI,hdI,snI, ↓reduceIte,reduceCtorEq,Nat.reduceEqDiff,Nat.reduceAdd,Nat.reduceMul,Nat.reduceSub,Nat.reduceLeDiff,Nat.reduceBEq,Int.reduceToNat,Int.reduceLE,Int.reduceLT,Int.reduceEq,Int.reduceNe,di]
 refine loop_keep (α:=Nat) rfl (fun i=>l.length - i) (fun i=>i≤l.length)
  (fun i=>[(0,.imm (pnI l)),(1,.imm (.func g [] caps)),(7,.imm (.int .i64 l.length)),(8,.imm (.int .i64 i))]) (fun _=>[]) 0 (Nat.zero_le _) (by simp only [pnI,mdI,hrI,plI,tkI,wkI,hdI,snI, ↓reduceIte,reduceCtorEq,Nat.reduceEqDiff,Nat.reduceAdd,Nat.reduceMul,Nat.reduceSub,Nat.reduceLeDiff,Nat.reduceBEq,Int.reduceToNat,Int.reduceLE,Int.reduceLT,Int.reduceEq,Int.reduceNe,di,List.length_map] <;> rfl) ?_
 intro i hi ih
 simp only [pnI,res56,b56k0,b56k1,b56k2,mdI,hrI,plI,tkI,wkI,hdI,snI, ↓reduceIte,reduceCtorEq,Nat.reduceEqDiff,Nat.reduceAdd,Nat.reduceMul,Nat.reduceSub,Nat.reduceLeDiff,Nat.reduceBEq,Int.reduceToNat,Int.reduceLE,Int.reduceLT,Int.reduceEq,Int.reduceNe,di]
 split
 ·rename_i h
  have hc:=hp _ (getD_mem (show i<l.length by omega))
  refine ⟨h,?_⟩
  refine calls_of hc ?_; simp only [mdI,hrI,plI,tkI,wkI,hdI,snI,res56,b56k0,b56k1,b56k2, ↓reduceIte,reduceCtorEq,Nat.reduceEqDiff,Nat.reduceAdd,Nat.reduceMul,Nat.reduceSub,Nat.reduceLeDiff,Nat.reduceBEq,Int.reduceToNat,Int.reduceLE,Int.reduceLT,Int.reduceEq,Int.reduceNe,di]
  rw [wrap64 (by omega) (by omega)]
  exact ih (i+1) _ _ (by omega) (by omega) (by simp only [pnI,mdI,hrI,plI,tkI,wkI,hdI,snI, ↓reduceIte,reduceCtorEq,Nat.reduceEqDiff,Nat.reduceAdd,Nat.reduceMul,Nat.reduceSub,Nat.reduceLeDiff,Nat.reduceBEq,Int.reduceToNat,Int.reduceLE,Int.reduceLT,Int.reduceEq,Int.reduceNe,di] <;> rfl)
 ·trivial
theorem d_ContainsN {g:FuncId} {caps:List IV} {l:List Nat} (hl:l.length≤1000000000) (hp:∀ x ∈ l,Contract Try.prog g (.int .i64 (x:Int) :: caps) (.bool false)) :
  Contract Try.prog 43 [pnI l,.func g [] caps] (.bool false):=by
 have h:=d_IndexN hl hp
 unfold pnI at h ⊢
 refine contract_run Try.func43 k43 rfl ?_
 simp only [body43,b43,res43,mdI,hrI,plI,tkI,wkI,hdI,snI, ↓reduceIte,reduceCtorEq,Nat.reduceEqDiff,Nat.reduceAdd,Nat.reduceMul,Nat.reduceSub,Nat.reduceLeDiff,Nat.reduceBEq,Int.reduceToNat,Int.reduceLE,Int.reduceLT,Int.reduceEq,Int.reduceNe,di]
 refine calls_of h ?_; simp only [mdI,hrI,plI,tkI,wkI,hdI,snI,res43, ↓reduceIte,reduceCtorEq,Nat.reduceEqDiff,Nat.reduceAdd,Nat.reduceMul,Nat.reduceSub,Nat.reduceLeDiff,Nat.reduceBEq,Int.reduceToNat,Int.reduceLE,Int.reduceLT,Int.reduceEq,Int.reduceNe,di]
theorem d_openPlan {w:Wk} (v:Vld w) {plan:List Nat} (hl:plan.length=w.hs.length) (hp:∀ m ∈ plan,m<w.ms.length) (hv:∀ u ∈ volsW w 0 w.vol plan,isVol w u) :
  Contract Try.prog 31 [plI w,tkI w,pnI plan] (.tup [wkI w,snI (volsW w 0 w.vol plan),.int .i64 0]):=by
 have h5:=v.ok.m5; have h10:=v.ok.h10
 have ho:=d_open v
 have hc:=d_ContainsN (l:=plan) (g:=44) (caps:=[.ptr (wkI w)]) (by omega) (fun m hm=>d_isModeN (by omega) (hp m hm))
 have hw:=w_volumes v.ok hl hp hv
 simp only [plI,tkI,wkI,pnI] at ho hc hw
 refine contract_run Try.func31 k31 rfl ?_
 simp only [body31,b31,res31,b31k0,pnI,mdI,hrI,plI,tkI,wkI,hdI,snI, ↓reduceIte,reduceCtorEq,Nat.reduceEqDiff,Nat.reduceAdd,Nat.reduceMul,Nat.reduceSub,Nat.reduceLeDiff,Nat.reduceBEq,Int.reduceToNat,Int.reduceLE,Int.reduceLT,Int.reduceEq,Int.reduceNe,di]
 refine calls_of ho ?_; simp only [mdI,hrI,plI,tkI,wkI,hdI,snI,res31,b31k0, ↓reduceIte,reduceCtorEq,Nat.reduceEqDiff,Nat.reduceAdd,Nat.reduceMul,Nat.reduceSub,Nat.reduceLeDiff,Nat.reduceBEq,Int.reduceToNat,Int.reduceLE,Int.reduceLT,Int.reduceEq,Int.reduceNe,di]
 refine calls_of hc ?_; simp only [mdI,hrI,plI,tkI,wkI,hdI,snI,res31,b31k0, ↓reduceIte,reduceCtorEq,Nat.reduceEqDiff,Nat.reduceAdd,Nat.reduceMul,Nat.reduceSub,Nat.reduceLeDiff,Nat.reduceBEq,Int.reduceToNat,Int.reduceLE,Int.reduceLT,Int.reduceEq,Int.reduceNe,di]
 refine calls_of (d_unlessP (show (plan.length:Int)=w.hs.length by omega)) ?_; simp only [mdI,hrI,plI,tkI,wkI,hdI,snI,res31,b31k0, ↓reduceIte,reduceCtorEq,Nat.reduceEqDiff,Nat.reduceAdd,Nat.reduceMul,Nat.reduceSub,Nat.reduceLeDiff,Nat.reduceBEq,Int.reduceToNat,Int.reduceLE,Int.reduceLT,Int.reduceEq,Int.reduceNe,di]
 refine calls_of d_unless ?_; simp only [mdI,hrI,plI,tkI,wkI,hdI,snI,res31,b31k0, ↓reduceIte,reduceCtorEq,Nat.reduceEqDiff,Nat.reduceAdd,Nat.reduceMul,Nat.reduceSub,Nat.reduceLeDiff,Nat.reduceBEq,Int.reduceToNat,Int.reduceLE,Int.reduceLT,Int.reduceEq,Int.reduceNe,di]
 refine calls_of (d_first (l:=[0,0,0]) (by decide) (by decide)) ?_; simp only [mdI,hrI,plI,tkI,wkI,hdI,snI,res31,b31k0, ↓reduceIte,reduceCtorEq,Nat.reduceEqDiff,Nat.reduceAdd,Nat.reduceMul,Nat.reduceSub,Nat.reduceLeDiff,Nat.reduceBEq,Int.reduceToNat,Int.reduceLE,Int.reduceLT,Int.reduceEq,Int.reduceNe,di]
 refine calls_of hw ?_; simp only [mdI,hrI,plI,tkI,wkI,hdI,snI,res31,b31k0, ↓reduceIte,reduceCtorEq,Nat.reduceEqDiff,Nat.reduceAdd,Nat.reduceMul,Nat.reduceSub,Nat.reduceLeDiff,Nat.reduceBEq,Int.reduceToNat,Int.reduceLE,Int.reduceLT,Int.reduceEq,Int.reduceNe,di]
 refine calls_of d_unless ?_; simp only [mdI,hrI,plI,tkI,wkI,hdI,snI,res31,b31k0, ↓reduceIte,reduceCtorEq,Nat.reduceEqDiff,Nat.reduceAdd,Nat.reduceMul,Nat.reduceSub,Nat.reduceLeDiff,Nat.reduceBEq,Int.reduceToNat,Int.reduceLE,Int.reduceLT,Int.reduceEq,Int.reduceNe,di]
theorem d_VolumesOf {w:Wk} (v:Vld w) {plan:List Nat} (hl:plan.length=w.hs.length) (hp:∀ m ∈ plan,m<w.ms.length) (hv:∀ u ∈ volsW w 0 w.vol plan,isVol w u) :
  Contract Try.prog 14 [plI w,tkI w,pnI plan] (.tup [snI (volsW w 0 w.vol plan),.int .i64 0]):=by
 have ho:=d_openPlan v hl hp hv
 simp only [plI,tkI,wkI,pnI,snI] at ho
 refine contract_run Try.func14 k14 rfl ?_
 simp only [body14,b14,res14,pnI,mdI,hrI,plI,tkI,wkI,hdI,snI, ↓reduceIte,reduceCtorEq,Nat.reduceEqDiff,Nat.reduceAdd,Nat.reduceMul,Nat.reduceSub,Nat.reduceLeDiff,Nat.reduceBEq,Int.reduceToNat,Int.reduceLE,Int.reduceLT,Int.reduceEq,Int.reduceNe,di]
 refine calls_of ho ?_; simp only [mdI,hrI,plI,tkI,wkI,hdI,snI,res14, ↓reduceIte,reduceCtorEq,Nat.reduceEqDiff,Nat.reduceAdd,Nat.reduceMul,Nat.reduceSub,Nat.reduceLeDiff,Nat.reduceBEq,Int.reduceToNat,Int.reduceLE,Int.reduceLT,Int.reduceEq,Int.reduceNe,di]
end Go.DI

/- Contract: slices.Repeat of one number. No condition. -/
set_option linter.unusedSimpArgs false
namespace Go.DI
open Go.Proofs Go.RowKit
theorem and_fin:∀ n:Fin 256,pxI (.bit .and) [.int .u64 (n.val:Int),.int .u64 4294967295]=some (.int .u64 (n.val:Int)):=by
 intro n
 have h:∀ n:Fin 256,bitI .and .u64 (n.val:Int) 4294967295=some (n.val:Int):=by decide +kernel
 show (bitI .and .u64 (n.val:Int) 4294967295).map (IV.int .u64)=_
 rw [h n]
 rfl
theorem shr_fin:∀ n:Fin 256,pxI (.sh .shr) [.int .u64 (n.val:Int),.int .u64 32]=some (.int .u64 0):=by
 intro n
 have h:∀ n:Fin 256,shI .shr .u64 (n.val:Int) 32=some 0:=by decide +kernel
 show (shI .shr .u64 (n.val:Int) 32).map (IV.int .u64)=_
 rw [h n]
 rfl
theorem wrap_fin:∀ n:Fin 256,IntKind.u64.wrap (n.val:Int)=(n.val:Int):=by decide +kernel
theorem c_Mul64 {n:Nat} (hn:n≤200):Contract Try.prog 68 [.int .u64 1,.int .u64 n] (.tup [.int .u64 0,.int .u64 n]):=by
 have a1:pxI (.bit .and) [.int .u64 1,.int .u64 4294967295]=some (.int .u64 1):=rfl
 have a0:pxI (.bit .and) [.int .u64 0,.int .u64 4294967295]=some (.int .u64 0):=rfl
 have s1:pxI (.sh .shr) [.int .u64 1,.int .u64 32]=some (.int .u64 0):=rfl
 have s0:pxI (.sh .shr) [.int .u64 0,.int .u64 32]=some (.int .u64 0):=rfl
 have w0:IntKind.u64.wrap 0=0:=rfl
 have a2:=and_fin ⟨n,by omega⟩
 have s2:=shr_fin ⟨n,by omega⟩
 have w2:=wrap_fin ⟨n,by omega⟩
 dsimp only at a2 s2 w2
 refine contract_run Try.func68 k68 rfl ?_
 simp only [body68,b68,res68,optK,a1,a2,a0,s1,s2,s0,w2,w0,Int.reduceMul,Int.reduceAdd,Int.one_mul,Int.zero_mul,Int.mul_zero,Int.add_zero,mdI,hrI,plI,tkI,wkI,hdI,snI, ↓reduceIte,reduceCtorEq,Nat.reduceEqDiff,Nat.reduceAdd,Nat.reduceMul,Nat.reduceSub,Nat.reduceLeDiff,Nat.reduceBEq,Int.reduceToNat,Int.reduceLE,Int.reduceLT,Int.reduceEq,Int.reduceNe,di]
theorem c_Mul {n:Nat} (hn:n≤200):Contract Try.prog 62 [.int .u64 1,.int .u64 n] (.tup [.int .u64 0,.int .u64 n]):=by
 refine contract_run Try.func62 k62 rfl ?_
 simp only [body62,b62,res62,b62k0,mdI,hrI,plI,tkI,wkI,hdI,snI, ↓reduceIte,reduceCtorEq,Nat.reduceEqDiff,Nat.reduceAdd,Nat.reduceMul,Nat.reduceSub,Nat.reduceLeDiff,Nat.reduceBEq,Int.reduceToNat,Int.reduceLE,Int.reduceLT,Int.reduceEq,Int.reduceNe,di]
 refine calls_of (c_Mul64 hn) ?_; simp only [mdI,hrI,plI,tkI,wkI,hdI,snI,res62,b62k0, ↓reduceIte,reduceCtorEq,Nat.reduceEqDiff,Nat.reduceAdd,Nat.reduceMul,Nat.reduceSub,Nat.reduceLeDiff,Nat.reduceBEq,Int.reduceToNat,Int.reduceLE,Int.reduceLT,Int.reduceEq,Int.reduceNe,di]
def repA (x:Int) (n d:Nat):List Int:=List.replicate d x ++ List.replicate (n - d) 0
theorem all_int (l:List Int):((l.map (IV.int .i64)).all fun v => !v.isAgg)=true:=by simp [IV.isAgg]
theorem repA_len {x:Int} {n d:Nat} (h:d≤n):(repA x n d).length=n:=by unfold repA; rw [List.length_append,List.length_replicate,List.length_replicate]; omega
theorem repA_take {x:Int} {n d:Nat}:(repA x n d).take d=List.replicate d x:=by
 unfold repA
 rw [List.take_append_of_le_length (by rw [List.length_replicate]; omega),List.take_of_length_le (by rw [List.length_replicate]; omega)]
theorem repA_end {x:Int} {n:Nat}:repA x n n=List.replicate n x:=by
 unfold repA
 rw [Nat.sub_self,List.replicate_zero,List.append_nil]
theorem repA_step {x:Int} {n d:Nat}:(repA x n d).take d ++ ((List.replicate d x).take (n - d) ++ (repA x n d).drop (d+min (n - d) d))=repA x n (d+min (n - d) d):=by
 rw [repA_take,List.take_replicate]
 unfold repA
 rw [← List.drop_drop,show List.drop d (List.replicate d x ++ List.replicate (n - d) 0)=List.replicate (n - d) 0 by
  rw [List.drop_append_of_le_length (by rw [List.length_replicate]; omega),List.drop_of_length_le (by rw [List.length_replicate]; omega),List.nil_append],List.drop_replicate,← List.append_assoc,List.replicate_append_replicate]
 congr 2
 omega
theorem b_Repeat {x:Int} {n:Nat} (h1 : 1≤n) (hn:n≤200):BC Try.prog 51 [.cap0 1 [.int .i64 x],.imm (.int .i64 n)] (lookR []) fun r R'=>r = .vec 1000 0 n∧R'=lookR [(1000,.arr ((List.replicate n x).map (.int .i64)))]:=by
 have w2:=wrap_fin ⟨n,by omega⟩
 dsimp only at w2
 have w1:IntKind.u64.wrap ((1:Nat):Int)=1:=rfl
 refine bc_run Try.func51 k51 rfl rfl ?_
 simp only [body51,b51,res51,b51k0,b51k1,b51k2,b51k3,w2,mdI,hrI,plI,tkI,wkI,hdI,snI, ↓reduceIte,reduceCtorEq,Nat.reduceEqDiff,Nat.reduceAdd,Nat.reduceMul,Nat.reduceSub,Nat.reduceLeDiff,Nat.reduceBEq,Int.reduceToNat,Int.reduceLE,Int.reduceLT,Int.reduceEq,Int.reduceNe,di]
 rw [if_neg (by omega),w1]
 refine calls_of (c_Mul hn) ?_; simp only [mdI,hrI,plI,tkI,wkI,hdI,snI,res51,b51k0,b51k1,b51k2,b51k3, ↓reduceIte,reduceCtorEq,Nat.reduceEqDiff,Nat.reduceAdd,Nat.reduceMul,Nat.reduceSub,Nat.reduceLeDiff,Nat.reduceBEq,Int.reduceToNat,Int.reduceLE,Int.reduceLT,Int.reduceEq,Int.reduceNe,di]
 rw [if_neg (by omega),wrap64 (n:=(n:Int)) (by omega) (by omega),Int.toNat_natCast]
 refine ⟨by omega,by omega,by omega,?_⟩
 refine run_ren rfl (by first | decide | rfl) (by first | decide | rfl) (by first | decide | rfl) ?_
 simp only [res51,b51k0,b51k1,b51k2,b51k3,mdI,hrI,plI,tkI,wkI,hdI,snI, ↓reduceIte,reduceCtorEq,Nat.reduceEqDiff,Nat.reduceAdd,Nat.reduceMul,Nat.reduceSub,Nat.reduceLeDiff,Nat.reduceBEq,Int.reduceToNat,Int.reduceLE,Int.reduceLT,Int.reduceEq,Int.reduceNe,di]
 refine ⟨by rw [List.length_replicate]; omega,?_⟩
 have e0:List.map (IV.int .i64) (List.take 0 (List.replicate n 0)) ++ (List.take n [IV.int .i64 x] ++ List.map (IV.int .i64) (List.drop (0+min n 1) (List.replicate n 0)))=(repA x n 1).map (.int .i64):=by
  obtain ⟨k,rfl⟩ : ∃ k,n=k+1:=⟨n - 1,by omega⟩
  rw [show 0+min (k+1) 1=1 by omega,List.drop_replicate,show List.take 0 (List.replicate (k+1) (0:Int))=[] from rfl,show List.take (k+1) [IV.int .i64 x]=[IV.int .i64 x] by rw [List.take_succ_cons,List.take_nil]]
  unfold repA
  rw [List.map_append,show k+1 - 1=k by omega]
  rfl
 rw [e0,show min n 1=1 by omega]
 refine loop_keep (α:=Nat) rfl (fun d=>n - d) (fun d=>1≤d∧d≤n) (fun d=>[(7,.vec 1000 0 n),(8,.imm (.int .i64 d))]) (fun d=>[(1000,.arr ((repA x n d).map (.int .i64)))]) 1 ⟨Nat.le_refl _,h1⟩ (by simp only [mdI,hrI,plI,tkI,wkI,hdI,snI, ↓reduceIte,reduceCtorEq,Nat.reduceEqDiff,Nat.reduceAdd,Nat.reduceMul,Nat.reduceSub,Nat.reduceLeDiff,Nat.reduceBEq,Int.reduceToNat,Int.reduceLE,Int.reduceLT,Int.reduceEq,Int.reduceNe,di] <;> rfl) ?_
 rintro d ⟨hd1,hd⟩ ih
 have hlen:=repA_len (x:=x) hd
 simp only [res51,b51k0,b51k1,b51k2,b51k3,mdI,hrI,plI,tkI,wkI,hdI,snI, ↓reduceIte,reduceCtorEq,Nat.reduceEqDiff,Nat.reduceAdd,Nat.reduceMul,Nat.reduceSub,Nat.reduceLeDiff,Nat.reduceBEq,Int.reduceToNat,Int.reduceLE,Int.reduceLT,Int.reduceEq,Int.reduceNe,di]
 split
 ·rename_i hlt
  refine ⟨by omega,by omega,by omega,?_⟩
  rw [if_pos (by omega),show d - 0=d by omega,repA_take]
  simp only [res51,b51k0,b51k1,b51k2,b51k3,mdI,hrI,plI,tkI,wkI,hdI,snI, ↓reduceIte,reduceCtorEq,Nat.reduceEqDiff,Nat.reduceAdd,Nat.reduceMul,Nat.reduceSub,Nat.reduceLeDiff,Nat.reduceBEq,Int.reduceToNat,Int.reduceLE,Int.reduceLT,Int.reduceEq,Int.reduceNe,di]
  refine ⟨by omega,?_⟩
  refine ⟨all_int _,?_⟩
  rw [List.length_replicate,Nat.zero_add,repA_step,wrap64 (by omega) (by omega),show (d:Int)+(min (n - d) d:Nat)=((d+min (n - d) d:Nat):Int) by omega]
  exact ih (d+min (n - d) d) _ _ (by omega) (by omega) (by simp only [mdI,hrI,plI,tkI,wkI,hdI,snI, ↓reduceIte,reduceCtorEq,Nat.reduceEqDiff,Nat.reduceAdd,Nat.reduceMul,Nat.reduceSub,Nat.reduceLeDiff,Nat.reduceBEq,Int.reduceToNat,Int.reduceLE,Int.reduceLT,Int.reduceEq,Int.reduceNe,di] <;> rfl)
 ·rename_i hge
  obtain rfl:d=n:=by omega
  rw [outD_one res51,getD_tmp,repA_end]
  exact ⟨_,rfl,rfl,rfl,rfl⟩
end Go.DI


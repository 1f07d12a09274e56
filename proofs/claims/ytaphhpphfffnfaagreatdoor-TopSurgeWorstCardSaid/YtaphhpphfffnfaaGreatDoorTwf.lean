/- The reference's functions of runs, and the law of runs, as data. No condition. -/
import Derived.Test.YtaphhpphfffnfaaGreatDoorTwGk
namespace Go.DI
open Go.Proofs Go.RowKit
def b52:DCode :=
 (.seq
 (.region [⟨some 2,.mov,[.c (.slc 1 [])],none,[]⟩] false)
 (.seq
 (.region [⟨some 3,(.bsl 1),[],none,[]⟩,
 ⟨some 4,.movv,[.t 0],none,[]⟩,
 ⟨some 5,(.append 1 8 false),[.t 3,.t 4],none,[0,1]⟩,
 ⟨some 2,.movv,[.t 5],none,[2,2,0,1,2]⟩] false)
 .ret))
def d52:DFn:=⟨1,6,[.tmp 2],b52⟩
theorem body52:d52.body=b52:=rfl
theorem res52:d52.res=[.tmp 2]:=rfl
theorem k52:chkFn Tryz.prog Tryz.f52 d52=true:=by kernel_rfl
def b79k0:DCode :=
 (.region [⟨some 12,.mov,[.t 3],none,[]⟩,
 ⟨some 13,(.bin .add),[.t 12,.c (.int .i64 1)],none,[0]⟩,
 ⟨some 3,.mov,[.t 13],none,[1,0,1]⟩] false)
def b79k1:DCode :=
 (.seq
 (.block 1
 (.seq
 (.region [⟨some 14,.movv,[.t 0],none,[]⟩,
 ⟨some 15,.mov,[.t 3],none,[]⟩,
 ⟨some 16,(.iaddr 1),[.t 14,.t 15],none,[0,1]⟩,
 ⟨some 17,(.load false 1),[.t 16],none,[2]⟩,
 ⟨some 18,.call,[.f 168,.t 17],none,[3]⟩,
 ⟨some 4,.mov,[.t 18],none,[4,4,0,1,2,3,4]⟩] false)
 (.seq
 (.region [⟨some 19,.mov,[.t 4],none,[]⟩,
 ⟨some 20,(.bin .neq),[.t 19,.c (.int .i64 0)],none,[0]⟩] false)
 (.cond (.t 20)
 (.seq
 (.region [⟨some 21,.mov,[.t 4],none,[]⟩,
 ⟨some 2,.mov,[.t 21],none,[0,0]⟩] false)
 .ret)
 .skip))))
 (.keep [0,3] [] b79k0))
def b79l0:DCode:=.keep [0,3] []
 (.seq
 (.seq
 (.region [⟨some 8,.mov,[.t 3],none,[]⟩,
 ⟨some 9,.movv,[.t 0],none,[]⟩,
 ⟨some 10,.len,[.t 9],none,[1]⟩,
 ⟨some 11,(.bin .lss),[.t 8,.t 10],none,[0,2]⟩] false)
 (.cond (.t 11)
 .skip
 (.exit 0)))
 (.keep [0,3] [] b79k1))
def b79k2:DCode :=
 (.seq
 (.region [⟨some 2,.mov,[.c (.int .i64 0)],none,[]⟩] false)
 .ret)
def b79k3:DCode :=
 (.seq
 (.seq
 (.region [⟨some 3,.mov,[.c (.int .i64 0)],none,[]⟩] false)
 (.block 0
 (.loop b79l0)))
 (.keep [] [] b79k2))
def b79:DCode :=
 (.seq
 (.region [⟨some 2,.mov,[.c (.int .i64 0)],none,[]⟩] false)
 (.seq
 (.seq
 (.region [⟨some 5,.movv,[.t 0],none,[]⟩,
 ⟨some 6,.len,[.t 5],none,[0]⟩,
 ⟨some 7,(.bin .gtr),[.t 6,.c (.int .i64 200)],none,[1]⟩] false)
 (.cond (.t 7)
 (.seq
 (.region [⟨some 2,.mov,[.c (.int .i64 8)],none,[]⟩] false)
 .ret)
 .skip))
 (.keep [0] [] b79k3)))
def d79:DFn:=⟨1,22,[.tmp 2],b79⟩
theorem body79:d79.body=b79:=rfl
theorem res79:d79.res=[.tmp 2]:=rfl
theorem k79:chkFn Tryz.prog Tryz.f79 d79=true:=by kernel_rfl
end Go.DI


/- The reference's functions of witnesses, as data. No condition. -/
import Derived.Test.YtaphhpphfffnfaaGreatDoorTwh
namespace Go.DI
open Go.Proofs Go.RowKit
def b83:DCode :=
 (.seq
 (.region [⟨some 2,.mov,[.c (.slc 2 [])],none,[]⟩] false)
 (.seq
 (.region [⟨some 3,(.bsl 2),[],none,[]⟩,
 ⟨some 4,.movv,[.t 0],none,[]⟩,
 ⟨some 5,(.append 2 16 false),[.t 3,.t 4],none,[0,1]⟩,
 ⟨some 2,.movv,[.t 5],none,[2,2,0,1,2]⟩] false)
 .ret))
def d83:DFn:=⟨1,6,[.tmp 2],b83⟩
theorem body83:d83.body=b83:=rfl
theorem res83:d83.res=[.tmp 2]:=rfl
theorem k83:chkFn Tryz.prog Tryz.f83 d83=true:=by kernel_rfl
def b85:DCode :=
 (.seq
 (.region [⟨some 1,.box,[.t 0],none,[]⟩,
 ⟨some 2,(.alloc [(.imm (.slc 1 [])),(.imm (.int .i64 0)),(.imm (.int .i64 0)),(.imm (.int .i64 0)),(.imm (.int .i64 0))]),[],none,[]⟩] false)
 (.seq
 (.region [⟨some 3,(.faddr 0 false 1),[.t 1],none,[]⟩,
 ⟨some 4,(.load false 1),[.t 3],none,[0]⟩,
 ⟨some 5,.call,[.f 52,.t 4],none,[1]⟩,
 ⟨some 6,(.faddr 0 false 1),[.t 1],none,[0,1,2]⟩,
 ⟨none,(.store 1),[.t 6,.t 5],none,[3,2,2,0,1,2]⟩] false)
 (.seq
 (.region [⟨some 7,(.load true 5),[.t 1],none,[]⟩,
 ⟨none,(.store 5),[.t 2,.t 7],none,[0,0]⟩] false)
 .ret)))
def d85:DFn:=⟨1,8,[.cell 2 true 5],b85⟩
theorem body85:d85.body=b85:=rfl
theorem res85:d85.res=[.cell 2 true 5]:=rfl
theorem k85:chkFn Tryz.prog Tryz.f85 d85=true:=by kernel_rfl
end Go.DI


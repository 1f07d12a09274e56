/- The functions of the lakes' reference and of the statements, as data. No condition. -/
import Derived.Test.YtaphhpphfffnfaaGreatDoorLfGe
import Derived.Test.YtaphhpphfffnfaaGreatDoorProg
import Derived.KernelRfl
namespace Go.DI
open Go.Proofs Go.RowKit
/-- guidevane/guidevaneref01.FlowsErr -/
def b121k0 : DCode :=
 (.seq
 (.region [⟨(some 2), .mov, [.c (.int .i64 0)], none, []⟩] false)
 .ret)
def b121 : DCode :=
 (.seq
 (.region [⟨(some 1), .box, [.t 0], none, []⟩,
 ⟨(some 2), .mov, [.c (.int .i64 0)], none, []⟩] false)
 (.seq
 (.seq
 (.region [⟨(some 3), (.faddr 0 false 1), [.t 1], none, []⟩,
 ⟨(some 4), (.load false 1), [.t 3], none, [0]⟩,
 ⟨(some 5), .call, [.f 47, .t 4, .c (.int .i64 0), .c (.int .i64 10000000)], none, [1]⟩,
 ⟨(some 6), (.un .not), [.t 5], none, [2]⟩,
 ⟨(some 7), .mov, [.t 6], none, [3, 2]⟩,
 ⟨(some 8), (.faddr 1 false 1), [.t 1], (some (7, false)), [4]⟩,
 ⟨(some 9), (.load false 1), [.t 8], (some (7, false)), [5, 4]⟩,
 ⟨(some 10), .call, [.f 47, .t 9, .c (.int .i64 0), .c (.int .i64 10000000)], (some (7, false)), [6, 4, 4]⟩,
 ⟨(some 11), (.un .not), [.t 10], (some (7, false)), [7, 4]⟩,
 ⟨(some 12), .pick, [.t 7, .c (.bool true), .t 11], none, [4, 8]⟩,
 ⟨(some 13), .mov, [.t 12], none, [9, 7]⟩,
 ⟨(some 14), (.faddr 2 false 1), [.t 1], (some (13, false)), [10]⟩,
 ⟨(some 15), (.load false 1), [.t 14], (some (13, false)), [11, 10]⟩,
 ⟨(some 16), .call, [.f 47, .t 15, .c (.int .i64 (-10000000)), .c (.int .i64 10000000)], (some (13, false)), [12, 10, 10]⟩,
 ⟨(some 17), (.un .not), [.t 16], (some (13, false)), [13, 10]⟩,
 ⟨(some 18), .pick, [.t 13, .c (.bool true), .t 17], none, [10, 14]⟩] false)
 (.cond (.t 18)
 (.seq
 (.region [⟨(some 2), .mov, [.c (.int .i64 2)], none, []⟩] false)
 .ret)
 .skip))
 (.keep [] [] b121k0)))
def d121 : DFn := ⟨1, 19, [.tmp 2], b121⟩
theorem body121 : d121.body = b121 := rfl
theorem res121 : d121.res = [.tmp 2] := rfl
theorem k121 : chkFn Tryz.prog Tryz.f121 d121 = true := by kernel_rfl

/-- guidevane/guidevaneref01.CopyList -/
def b36 : DCode :=
 (.seq
 (.region [⟨(some 2), .mov, [.c (.slc 3 [])], none, []⟩] false)
 (.seq
 (.region [⟨(some 3), (.bsl 3), [], none, []⟩,
 ⟨(some 4), .movv, [.t 0], none, []⟩,
 ⟨(some 5), (.append 3 24 false), [.t 3, .t 4], none, [0, 1]⟩,
 ⟨(some 2), .movv, [.t 5], none, [2, 2, 0, 1, 2]⟩] false)
 .ret))
def d36 : DFn := ⟨1, 6, [.tmp 2], b36⟩
theorem body36 : d36.body = b36 := rfl
theorem res36 : d36.res = [.tmp 2] := rfl
theorem k36 : chkFn Tryz.prog Tryz.f36 d36 = true := by kernel_rfl

/-- guidevane/guidevaneref01.ListErr -/
def b41k0 : DCode :=
 (.region [⟨(some 12), .mov, [.t 3], none, []⟩,
 ⟨(some 13), (.bin .add), [.t 12, .c (.int .i64 1)], none, [0]⟩,
 ⟨(some 3), .mov, [.t 13], none, [1, 0, 1]⟩] false)
def b41k1 : DCode :=
 (.seq
 (.block 1
 (.seq
 (.region [⟨(some 14), .movv, [.t 0], none, []⟩,
 ⟨(some 15), .mov, [.t 3], none, []⟩,
 ⟨(some 16), (.iaddr 3), [.t 14, .t 15], none, [0, 1]⟩,
 ⟨(some 17), (.load true 3), [.t 16], none, [2]⟩,
 ⟨(some 18), .call, [.f 121, .t 17], none, [3]⟩,
 ⟨(some 4), .mov, [.t 18], none, [4, 4, 0, 1, 2, 3, 4]⟩] false)
 (.seq
 (.region [⟨(some 19), .mov, [.t 4], none, []⟩,
 ⟨(some 20), (.bin .neq), [.t 19, .c (.int .i64 0)], none, [0]⟩] false)
 (.cond (.t 20)
 (.seq
 (.region [⟨(some 21), .mov, [.t 4], none, []⟩,
 ⟨(some 2), .mov, [.t 21], none, [0, 0]⟩] false)
 .ret)
 .skip))))
 (.keep [0, 3] [] b41k0))
def b41l0 : DCode := .keep [0, 3] []
 (.seq
 (.seq
 (.region [⟨(some 8), .mov, [.t 3], none, []⟩,
 ⟨(some 9), .movv, [.t 0], none, []⟩,
 ⟨(some 10), .len, [.t 9], none, [1]⟩,
 ⟨(some 11), (.bin .lss), [.t 8, .t 10], none, [0, 2]⟩] false)
 (.cond (.t 11)
 .skip
 (.exit 0)))
 (.keep [0, 3] [] b41k1))
def b41k2 : DCode :=
 (.seq
 (.region [⟨(some 2), .mov, [.c (.int .i64 0)], none, []⟩] false)
 .ret)
def b41k3 : DCode :=
 (.seq
 (.seq
 (.region [⟨(some 3), .mov, [.c (.int .i64 0)], none, []⟩] false)
 (.block 0
 (.loop b41l0)))
 (.keep [] [] b41k2))
def b41 : DCode :=
 (.seq
 (.region [⟨(some 2), .mov, [.c (.int .i64 0)], none, []⟩] false)
 (.seq
 (.seq
 (.region [⟨(some 5), .movv, [.t 0], none, []⟩,
 ⟨(some 6), .len, [.t 5], none, [0]⟩,
 ⟨(some 7), (.bin .gtr), [.t 6, .c (.int .i64 200)], none, [1]⟩] false)
 (.cond (.t 7)
 (.seq
 (.region [⟨(some 2), .mov, [.c (.int .i64 8)], none, []⟩] false)
 .ret)
 .skip))
 (.keep [0] [] b41k3)))
def d41 : DFn := ⟨1, 22, [.tmp 2], b41⟩
theorem body41 : d41.body = b41 := rfl
theorem res41 : d41.res = [.tmp 2] := rfl
theorem k41 : chkFn Tryz.prog Tryz.f41 d41 = true := by kernel_rfl

end Go.DI


/- The functions of the reference and of the statements about waves, as data. No condition. -/
import Derived.Test.YtaphhpphfffnfaaGreatDoorWsGe
import Derived.Test.YtaphhpphfffnfaaGreatDoorWsGf
import Derived.Test.YtaphhpphfffnfaaGreatDoorProg
import Derived.KernelRfl
namespace Go.DI
open Go.Proofs Go.RowKit
/-- guidevane/guidevanebase.Within -/
def b47 : DCode :=
 (.seq
 (.region [⟨(some 6), .mov, [.c (.bool false)], none, []⟩] false)
 (.seq
 (.region [⟨(some 7), .mov, [.t 1], none, []⟩,
 ⟨(some 8), .mov, [.t 0], none, []⟩,
 ⟨(some 9), (.bin .leq), [.t 7, .t 8], none, [0, 1]⟩,
 ⟨(some 10), .mov, [.t 9], none, [2]⟩,
 ⟨(some 11), .mov, [.t 0], (some (10, true)), [3]⟩,
 ⟨(some 12), .mov, [.t 2], (some (10, true)), [3]⟩,
 ⟨(some 13), (.bin .leq), [.t 11, .t 12], (some (10, true)), [4, 5, 3]⟩,
 ⟨(some 14), .pick, [.t 10, .t 13, .c (.bool false)], none, [3, 6]⟩,
 ⟨(some 6), .mov, [.t 14], none, [7, 3, 0, 1, 2, 3, 4, 5, 6, 7]⟩] false)
 .ret))
def d47 : DFn := ⟨3, 15, [.tmp 6], b47⟩
theorem body47 : d47.body = b47 := rfl
theorem res47 : d47.res = [.tmp 6] := rfl
theorem k47 : chkFn Tryz.prog Tryz.f47 d47 = true := by kernel_rfl

/-- guidevane/guidevanebase.Ints -/
def b93k0 : DCode :=
 (.region [⟨(some 15), .mov, [.t 5], none, []⟩,
 ⟨(some 16), (.bin .add), [.t 15, .c (.int .i64 1)], none, [0]⟩,
 ⟨(some 5), .mov, [.t 16], none, [1, 0, 1]⟩] false)
def b93k1 : DCode :=
 (.seq
 (.block 1
 (.seq
 (.region [⟨(some 17), .movv, [.t 0], none, []⟩,
 ⟨(some 18), .mov, [.t 5], none, []⟩,
 ⟨(some 19), (.iaddr 1), [.t 17, .t 18], none, [0, 1]⟩,
 ⟨(some 20), (.load false 1), [.t 19], none, [2]⟩,
 ⟨(some 21), .movv, [.t 1], none, []⟩,
 ⟨(some 22), .mov, [.t 5], none, []⟩,
 ⟨(some 23), (.iaddr 1), [.t 21, .t 22], none, [4, 5]⟩,
 ⟨(some 24), (.load false 1), [.t 23], none, [6]⟩,
 ⟨(some 25), (.bin .neq), [.t 20, .t 24], none, [3, 7]⟩] true)
 (.cond (.t 25)
 (.seq
 (.region [⟨(some 4), .mov, [.c (.bool false)], none, []⟩] false)
 .ret)
 .skip)))
 (.keep [0, 1, 5] [] b93k0))
def b93l0 : DCode := .keep [0, 1, 5] []
 (.seq
 (.seq
 (.region [⟨(some 11), .mov, [.t 5], none, []⟩,
 ⟨(some 12), .movv, [.t 0], none, []⟩,
 ⟨(some 13), .len, [.t 12], none, [1]⟩,
 ⟨(some 14), (.bin .lss), [.t 11, .t 13], none, [0, 2]⟩] false)
 (.cond (.t 14)
 .skip
 (.exit 0)))
 (.keep [0, 1, 5] [] b93k1))
def b93k2 : DCode :=
 (.seq
 (.region [⟨(some 4), .mov, [.c (.bool true)], none, []⟩] false)
 .ret)
def b93k3 : DCode :=
 (.seq
 (.seq
 (.region [⟨(some 5), .mov, [.c (.int .i64 0)], none, []⟩] false)
 (.block 0
 (.loop b93l0)))
 (.keep [] [] b93k2))
def b93 : DCode :=
 (.seq
 (.region [⟨(some 4), .mov, [.c (.bool false)], none, []⟩] false)
 (.seq
 (.seq
 (.region [⟨(some 6), .movv, [.t 0], none, []⟩,
 ⟨(some 7), .len, [.t 6], none, [0]⟩,
 ⟨(some 8), .movv, [.t 1], none, []⟩,
 ⟨(some 9), .len, [.t 8], none, [2]⟩,
 ⟨(some 10), (.bin .neq), [.t 7, .t 9], none, [1, 3]⟩] false)
 (.cond (.t 10)
 (.seq
 (.region [⟨(some 4), .mov, [.c (.bool false)], none, []⟩] false)
 .ret)
 .skip))
 (.keep [0, 1] [] b93k3)))
def d93 : DFn := ⟨2, 26, [.tmp 4], b93⟩
theorem body93 : d93.body = b93 := rfl
theorem res93 : d93.res = [.tmp 4] := rfl
theorem k93 : chkFn Tryz.prog Tryz.f93 d93 = true := by kernel_rfl

/-- guidevane/guidevanebase.CopyInts -/
def b52 : DCode :=
 (.seq
 (.region [⟨(some 2), .mov, [.c (.slc 1 [])], none, []⟩] false)
 (.seq
 (.region [⟨(some 3), (.bsl 1), [], none, []⟩,
 ⟨(some 4), .movv, [.t 0], none, []⟩,
 ⟨(some 5), (.append 1 8 false), [.t 3, .t 4], none, [0, 1]⟩,
 ⟨(some 2), .movv, [.t 5], none, [2, 2, 0, 1, 2]⟩] false)
 .ret))
def d52 : DFn := ⟨1, 6, [.tmp 2], b52⟩
theorem body52 : d52.body = b52 := rfl
theorem res52 : d52.res = [.tmp 2] := rfl
theorem k52 : chkFn Tryz.prog Tryz.f52 d52 = true := by kernel_rfl

/-- guidevane/guidevaneref03.CopyLine -/
def b13 : DCode :=
 (.seq
 (.region [⟨(some 1), .box, [.t 0], none, []⟩,
 ⟨(some 2), (.alloc [(.imm (.slc 2 [])), (.imm (.slc 1 []))]), [], none, []⟩] false)
 (.seq
 (.region [⟨(some 3), (.bsl 2), [], none, []⟩,
 ⟨(some 4), (.faddr 0 false 1), [.t 1], none, []⟩,
 ⟨(some 5), (.load false 1), [.t 4], none, [1]⟩,
 ⟨(some 6), (.appq 2 16), [.t 3, .t 5], none, [0, 2]⟩,
 ⟨(some 7), (.faddr 1 false 1), [.t 1], none, []⟩,
 ⟨(some 8), (.load false 1), [.t 7], none, [4]⟩,
 ⟨(some 9), .call, [.f 52, .t 8], none, [5, 3]⟩,
 ⟨(some 10), (.build [(.imm (.slc 2 [])), (.imm (.slc 1 []))] [(0, 1), (1, 1)]), [.t 6, .t 9], none, [3, 6]⟩,
 ⟨none, (.store 2), [.t 2, .t 10], none, [7, 6, 0, 1, 2, 3, 4, 5, 6, 7]⟩] true)
 .ret))
def d13 : DFn := ⟨1, 11, [.cell 2 true 2], b13⟩
theorem body13 : d13.body = b13 := rfl
theorem res13 : d13.res = [.cell 2 true 2] := rfl
theorem k13 : chkFn Tryz.prog Tryz.f13 d13 = true := by kernel_rfl

/-- guidevane/guidevaneref03.SameState -/
def b94 : DCode :=
 (.seq
 (.region [⟨(some 2), .box, [.t 0], none, []⟩,
 ⟨(some 3), .box, [.t 1], none, []⟩,
 ⟨(some 4), .mov, [.c (.bool false)], none, []⟩] false)
 (.seq
 (.region [⟨(some 5), (.faddr 0 false 1), [.t 2], none, []⟩,
 ⟨(some 6), (.load false 1), [.t 5], none, [0]⟩,
 ⟨(some 7), (.faddr 0 false 1), [.t 3], none, []⟩,
 ⟨(some 8), (.load false 1), [.t 7], none, [2]⟩,
 ⟨(some 9), .call, [.f 93, .t 6, .t 8], none, [1, 3]⟩,
 ⟨(some 10), .mov, [.t 9], none, [4, 4]⟩,
 ⟨(some 11), (.faddr 1 false 1), [.t 2], (some (10, true)), [5]⟩,
 ⟨(some 12), (.load false 1), [.t 11], (some (10, true)), [6, 5]⟩,
 ⟨(some 13), (.faddr 1 false 1), [.t 3], (some (10, true)), [5]⟩,
 ⟨(some 14), (.load false 1), [.t 13], (some (10, true)), [8, 5]⟩,
 ⟨(some 15), .call, [.f 93, .t 12, .t 14], (some (10, true)), [7, 9, 5, 5]⟩,
 ⟨(some 16), .pick, [.t 10, .t 15, .c (.bool false)], none, [5, 10]⟩,
 ⟨(some 17), .mov, [.t 16], none, [11, 10]⟩,
 ⟨(some 18), (.faddr 2 false 1), [.t 2], (some (17, true)), [12]⟩,
 ⟨(some 19), (.load false 1), [.t 18], (some (17, true)), [13, 12]⟩,
 ⟨(some 20), (.faddr 2 false 1), [.t 3], (some (17, true)), [12]⟩,
 ⟨(some 21), (.load false 1), [.t 20], (some (17, true)), [15, 12]⟩,
 ⟨(some 22), .call, [.f 93, .t 19, .t 21], (some (17, true)), [14, 16, 12, 12]⟩,
 ⟨(some 23), .pick, [.t 17, .t 22, .c (.bool false)], none, [12, 17]⟩,
 ⟨(some 4), .mov, [.t 23], none, [18, 17, 0, 1, 2, 3, 4, 5, 6, 7, 8, 9, 10, 11, 12, 13, 14, 15, 16, 17, 18]⟩] false)
 .ret))
def d94 : DFn := ⟨2, 24, [.tmp 4], b94⟩
theorem body94 : d94.body = b94 := rfl
theorem res94 : d94.res = [.tmp 4] := rfl
theorem k94 : chkFn Tryz.prog Tryz.f94 d94 = true := by kernel_rfl

/-- guidevane/guidevaneref03.LineErr -/
def b18 : DCode :=
 (.seq
 (.region [⟨(some 1), .box, [.t 0], none, []⟩,
 ⟨(some 2), .mov, [.c (.int .i64 0)], none, []⟩] false)
 (.seq
 (.region [⟨(some 6), (.load true 2), [.t 1], none, []⟩,
 ⟨(some 7), .call, [.f 104, .t 6], none, [0]⟩,
 ⟨(some 5), .mov, [.t 7], none, [1]⟩,
 ⟨(some 8), (.ext 0), [.t 5], none, [2]⟩,
 ⟨(some 9), (.ext 1), [.t 5], none, [2]⟩,
 ⟨(some 3), .mov, [.t 8], none, [3, 1, 0, 1, 2, 3]⟩,
 ⟨(some 4), .mov, [.t 9], none, [4, 5, 0, 1, 2, 3, 4, 5]⟩] false)
 (.seq
 (.region [⟨(some 10), .mov, [.t 4], none, []⟩,
 ⟨(some 2), .mov, [.t 10], none, [0, 0]⟩] false)
 .ret)))
def d18 : DFn := ⟨1, 11, [.tmp 2], b18⟩
theorem body18 : d18.body = b18 := rfl
theorem res18 : d18.res = [.tmp 2] := rfl
theorem k18 : chkFn Tryz.prog Tryz.f18 d18 = true := by kernel_rfl

/-- guidevane/guidevaneref03.CheckLine -/
def b104k0 : DCode :=
 (.region [⟨(some 27), .mov, [.t 4], none, []⟩,
 ⟨(some 28), (.bin .add), [.t 27, .c (.int .i64 1)], none, [0]⟩,
 ⟨(some 4), .mov, [.t 28], none, [1, 0, 1]⟩] false)
def b104k1 : DCode :=
 (.seq
 (.block 1
 (.seq
 (.region [⟨(some 29), (.faddr 0 false 1), [.t 1], none, []⟩,
 ⟨(some 30), (.load false 1), [.t 29], none, [0]⟩,
 ⟨(some 31), .mov, [.t 4], none, []⟩,
 ⟨(some 32), (.iaddr 2), [.t 30, .t 31], none, [1, 2]⟩,
 ⟨(some 33), (.faddr 0 false 1), [.t 32], none, [3]⟩,
 ⟨(some 34), (.load false 1), [.t 33], none, [4]⟩,
 ⟨(some 35), .call, [.f 47, .t 34, .c (.int .i64 1), .c (.int .i64 6)], none, [5]⟩,
 ⟨(some 36), (.un .not), [.t 35], none, [6]⟩,
 ⟨(some 37), .mov, [.t 36], none, [7, 6]⟩,
 ⟨(some 38), (.faddr 0 false 1), [.t 1], (some (37, false)), [8]⟩,
 ⟨(some 39), (.load false 1), [.t 38], (some (37, false)), [9, 8]⟩,
 ⟨(some 40), .mov, [.t 4], (some (37, false)), [8]⟩,
 ⟨(some 41), (.iaddr 2), [.t 39, .t 40], (some (37, false)), [10, 11, 8]⟩,
 ⟨(some 42), (.faddr 1 false 1), [.t 41], (some (37, false)), [12, 8]⟩,
 ⟨(some 43), (.load false 1), [.t 42], (some (37, false)), [13, 8]⟩,
 ⟨(some 44), .call, [.f 47, .t 43, .c (.int .i64 1), .c (.int .i64 10)], (some (37, false)), [14, 8, 8]⟩,
 ⟨(some 45), (.un .not), [.t 44], (some (37, false)), [15, 8]⟩,
 ⟨(some 46), .pick, [.t 37, .c (.bool true), .t 45], none, [8, 16]⟩] false)
 (.cond (.t 46)
 (.seq
 (.region [⟨(some 47), .mov, [.t 4], none, []⟩,
 ⟨(some 2), .mov, [.t 47], none, [0, 0]⟩,
 ⟨(some 3), .mov, [.c (.int .i64 2)], none, [1, 0, 1]⟩] false)
 .ret)
 .skip)))
 (.keep [1, 4] [1] b104k0))
def b104l0 : DCode := .keep [1, 4] [1]
 (.seq
 (.seq
 (.region [⟨(some 22), .mov, [.t 4], none, []⟩,
 ⟨(some 23), (.faddr 0 false 1), [.t 1], none, []⟩,
 ⟨(some 24), (.load false 1), [.t 23], none, [1]⟩,
 ⟨(some 25), .len, [.t 24], none, [2]⟩,
 ⟨(some 26), (.bin .lss), [.t 22, .t 25], none, [0, 3]⟩] false)
 (.cond (.t 26)
 .skip
 (.exit 0)))
 (.keep [1, 4] [1] b104k1))
def b104k2 : DCode :=
 (.region [⟨(some 53), .mov, [.t 5], none, []⟩,
 ⟨(some 54), (.bin .add), [.t 53, .c (.int .i64 1)], none, [0]⟩,
 ⟨(some 5), .mov, [.t 54], none, [1, 0, 1]⟩] false)
def b104k3 : DCode :=
 (.seq
 (.block 3
 (.seq
 (.region [⟨(some 55), (.faddr 1 false 1), [.t 1], none, []⟩,
 ⟨(some 56), (.load false 1), [.t 55], none, [0]⟩,
 ⟨(some 57), .mov, [.t 5], none, []⟩,
 ⟨(some 58), (.iaddr 1), [.t 56, .t 57], none, [1, 2]⟩,
 ⟨(some 59), (.load false 1), [.t 58], none, [3]⟩,
 ⟨(some 60), .call, [.f 47, .t 59, .c (.int .i64 0), .c (.int .i64 20)], none, [4]⟩,
 ⟨(some 61), (.un .not), [.t 60], none, [5]⟩] false)
 (.cond (.t 61)
 (.seq
 (.region [⟨(some 62), .mov, [.t 5], none, []⟩,
 ⟨(some 2), .mov, [.t 62], none, [0, 0]⟩,
 ⟨(some 3), .mov, [.c (.int .i64 2)], none, [1, 0, 1]⟩] false)
 .ret)
 .skip)))
 (.keep [1, 5] [1] b104k2))
def b104l1 : DCode := .keep [1, 5] [1]
 (.seq
 (.seq
 (.region [⟨(some 48), .mov, [.t 5], none, []⟩,
 ⟨(some 49), (.faddr 1 false 1), [.t 1], none, []⟩,
 ⟨(some 50), (.load false 1), [.t 49], none, [1]⟩,
 ⟨(some 51), .len, [.t 50], none, [2]⟩,
 ⟨(some 52), (.bin .lss), [.t 48, .t 51], none, [0, 3]⟩] false)
 (.cond (.t 52)
 .skip
 (.exit 2)))
 (.keep [1, 5] [1] b104k3))
def b104k4 : DCode :=
 (.seq
 (.region [⟨(some 2), .mov, [.c (.int .i64 0)], none, []⟩,
 ⟨(some 3), .mov, [.c (.int .i64 0)], none, [0, 0]⟩] false)
 .ret)
def b104k5 : DCode :=
 (.seq
 (.seq
 (.region [⟨(some 5), .mov, [.c (.int .i64 0)], none, []⟩] false)
 (.block 2
 (.loop b104l1)))
 (.keep [] [] b104k4))
def b104k6 : DCode :=
 (.seq
 (.seq
 (.region [⟨(some 4), .mov, [.c (.int .i64 0)], none, []⟩] false)
 (.block 0
 (.loop b104l0)))
 (.keep [1] [1] b104k5))
def b104k7 : DCode :=
 (.seq
 (.seq
 (.region [⟨(some 14), (.faddr 1 false 1), [.t 1], none, []⟩,
 ⟨(some 15), (.load false 1), [.t 14], none, [0]⟩,
 ⟨(some 16), .len, [.t 15], none, [1]⟩,
 ⟨(some 17), (.faddr 0 false 1), [.t 1], none, []⟩,
 ⟨(some 18), (.load false 1), [.t 17], none, [3]⟩,
 ⟨(some 19), .len, [.t 18], none, [4]⟩,
 ⟨(some 20), (.bin .sub), [.t 19, .c (.int .i64 1)], none, [5]⟩,
 ⟨(some 21), (.bin .neq), [.t 16, .t 20], none, [2, 6]⟩] false)
 (.cond (.t 21)
 (.seq
 (.region [⟨(some 2), .mov, [.c (.int .i64 0)], none, []⟩,
 ⟨(some 3), .mov, [.c (.int .i64 10)], none, [0, 0]⟩] false)
 .ret)
 .skip))
 (.keep [1] [1] b104k6))
def b104k8 : DCode :=
 (.seq
 (.seq
 (.region [⟨(some 10), (.faddr 0 false 1), [.t 1], none, []⟩,
 ⟨(some 11), (.load false 1), [.t 10], none, [0]⟩,
 ⟨(some 12), .len, [.t 11], none, [1]⟩,
 ⟨(some 13), (.bin .gtr), [.t 12, .c (.int .i64 4)], none, [2]⟩] false)
 (.cond (.t 13)
 (.seq
 (.region [⟨(some 2), .mov, [.c (.int .i64 0)], none, []⟩,
 ⟨(some 3), .mov, [.c (.int .i64 8)], none, [0, 0]⟩] false)
 .ret)
 .skip))
 (.keep [1] [1] b104k7))
def b104 : DCode :=
 (.seq
 (.region [⟨(some 1), .box, [.t 0], none, []⟩,
 ⟨(some 2), .mov, [.c (.int .i64 0)], none, []⟩,
 ⟨(some 3), .mov, [.c (.int .i64 0)], none, [1]⟩] false)
 (.seq
 (.seq
 (.region [⟨(some 6), (.faddr 0 false 1), [.t 1], none, []⟩,
 ⟨(some 7), (.load false 1), [.t 6], none, [0]⟩,
 ⟨(some 8), .len, [.t 7], none, [1]⟩,
 ⟨(some 9), (.bin .eql), [.t 8, .c (.int .i64 0)], none, [2]⟩] false)
 (.cond (.t 9)
 (.seq
 (.region [⟨(some 2), .mov, [.c (.int .i64 0)], none, []⟩,
 ⟨(some 3), .mov, [.c (.int .i64 10)], none, [0, 0]⟩] false)
 .ret)
 .skip))
 (.keep [1] [1] b104k8)))
def d104 : DFn := ⟨1, 63, [.tmp 2, .tmp 3], b104⟩
theorem body104 : d104.body = b104 := rfl
theorem res104 : d104.res = [.tmp 2, .tmp 3] := rfl
theorem k104 : chkFn Tryz.prog Tryz.f104 d104 = true := by kernel_rfl

/-- guidevane/guidevanelaw03.Pipe -/
def b89 : DCode :=
 (.seq
 (.region [⟨(some 0), (.alloc [(.imm (.slc 2 [])), (.imm (.slc 1 []))]), [], none, []⟩] false)
 (.seq
 (.region [⟨(some 1), (.build [(.imm (.int .i64 0)), (.imm (.int .i64 0))] [(0, 1), (1, 1)]), [.c (.int .i64 2), .c (.int .i64 3)], none, []⟩,
 ⟨(some 2), (.bsl 2), [.t 1], none, [0]⟩,
 ⟨(some 3), (.build [(.imm (.slc 2 [])), (.imm (.slc 1 []))] [(0, 1)]), [.t 2], none, [1]⟩,
 ⟨none, (.store 2), [.t 0, .t 3], none, [2, 0, 1, 2]⟩] false)
 .ret))
def d89 : DFn := ⟨0, 4, [.cell 0 true 2], b89⟩
theorem body89 : d89.body = b89 := rfl
theorem res89 : d89.res = [.cell 0 true 2] := rfl
theorem k89 : chkFn Tryz.prog Tryz.f89 d89 = true := by kernel_rfl

/-- guidevane/guidevanelaw03.Line -/
def b90 : DCode :=
 (.seq
 (.region [⟨(some 0), (.alloc [(.imm (.slc 2 [])), (.imm (.slc 1 []))]), [], none, []⟩] false)
 (.seq
 (.region [⟨(some 1), (.build [(.imm (.int .i64 0)), (.imm (.int .i64 0))] [(0, 1), (1, 1)]), [.c (.int .i64 1), .c (.int .i64 1)], none, []⟩,
 ⟨(some 2), (.build [(.imm (.int .i64 0)), (.imm (.int .i64 0))] [(0, 1), (1, 1)]), [.c (.int .i64 1), .c (.int .i64 3)], none, []⟩,
 ⟨(some 3), (.bsl 2), [.t 1, .t 2], none, [0, 1]⟩,
 ⟨(some 4), (.bsl 1), [.c (.int .i64 2)], none, []⟩,
 ⟨(some 5), (.build [(.imm (.slc 2 [])), (.imm (.slc 1 []))] [(0, 1), (1, 1)]), [.t 3, .t 4], none, [2, 3]⟩,
 ⟨none, (.store 2), [.t 0, .t 5], none, [4, 0, 1, 2, 3, 4]⟩] false)
 .ret))
def d90 : DFn := ⟨0, 6, [.cell 0 true 2], b90⟩
theorem body90 : d90.body = b90 := rfl
theorem res90 : d90.res = [.cell 0 true 2] := rfl
theorem k90 : chkFn Tryz.prog Tryz.f90 d90 = true := by kernel_rfl

/-- guidevane/guidevanelaw03.awake -/
def b10 : DCode :=
 (.seq
 (.region [⟨(some 0), .mov, [.c (.bool false)], none, []⟩] false)
 (.seq
 (.region [⟨(some 12), .call, [.f 89], none, []⟩,
 ⟨(some 13), (.bsl 1), [.c (.int .i64 5)], none, []⟩,
 ⟨(some 14), .call, [.f 88, .t 12, .t 13, .c (.int .i64 9)], none, [0, 1, 0]⟩,
 ⟨(some 11), .mov, [.t 14], none, [2]⟩,
 ⟨(some 15), (.ext 0), [.t 11], none, [3]⟩,
 ⟨(some 16), (.ext 1), [.t 11], none, [3]⟩,
 ⟨(some 1), .movv, [.t 15], none, [4, 2, 0, 1, 2, 3, 4]⟩,
 ⟨(some 2), .mov, [.t 16], none, [5, 6, 0, 1, 2, 3, 4, 5, 6]⟩] false)
 (.seq
 (.region [⟨(some 18), .call, [.f 90], none, []⟩,
 ⟨(some 19), (.bsl 1), [.c (.int .i64 7), .c (.int .i64 0)], none, []⟩,
 ⟨(some 20), (.bsl 1), [.c (.int .i64 0), .c (.int .i64 0)], none, []⟩,
 ⟨(some 21), (.bsl 1), [.c (.int .i64 3)], none, []⟩,
 ⟨(some 22), (.build [(.imm (.slc 1 [])), (.imm (.slc 1 [])), (.imm (.slc 1 []))] [(0, 1), (1, 1), (2, 1)]), [.t 19, .t 20, .t 21], none, [1, 2, 3]⟩,
 ⟨(some 23), .call, [.f 63, .t 18, .t 22, .c (.int .i64 0)], none, [0, 4, 0]⟩,
 ⟨(some 17), .mov, [.t 23], none, [5]⟩,
 ⟨(some 24), (.ext 0), [.t 17], none, [6]⟩,
 ⟨(some 25), (.ext 1), [.t 17], none, [6]⟩,
 ⟨(some 3), (.alloc [(.imm (.slc 1 [])), (.imm (.slc 1 [])), (.imm (.slc 1 []))]), [], none, []⟩,
 ⟨none, (.store 3), [.t 3, .t 24], none, [9, 7, 5, 0, 1, 2, 3, 4, 5, 6, 7, 9]⟩,
 ⟨(some 4), .mov, [.t 25], none, [8, 10, 0, 1, 2, 3, 4, 5, 6, 7, 8, 9, 10]⟩] false)
 (.seq
 (.region [⟨(some 27), .call, [.f 89], none, []⟩,
 ⟨(some 28), (.build [(.imm (.int .i64 0)), (.imm (.int .i64 0))] [(0, 1), (1, 1)]), [.c (.int .i64 (-2)), .c (.int .i64 2)], none, []⟩,
 ⟨(some 29), (.build [(.imm (.int .i64 0)), (.imm (.int .i64 0)), (.imm (.int .i64 0)), (.imm (.int .i64 0)), (.imm (.int .i64 0))] [(0, 1), (1, 1), (2, 1), (3, 2)]), [.c (.int .i64 4), .c (.int .i64 7), .c (.int .i64 20), .t 28], none, [1]⟩,
 ⟨(some 30), .call, [.f 91, .t 27, .t 29], none, [0, 2, 0]⟩,
 ⟨(some 26), .mov, [.t 30], none, [3]⟩,
 ⟨(some 31), (.ext 0), [.t 26], none, [4]⟩,
 ⟨(some 32), (.ext 1), [.t 26], none, [4]⟩,
 ⟨(some 5), .movv, [.t 31], none, [5, 3, 0, 1, 2, 3, 4, 5]⟩,
 ⟨(some 6), .mov, [.t 32], none, [6, 7, 0, 1, 2, 3, 4, 5, 6, 7]⟩] false)
 (.seq
 (.region [⟨(some 34), .call, [.f 90], none, []⟩,
 ⟨(some 35), .call, [.f 65, .t 34, .c (.int .i64 1)], none, [0, 0]⟩,
 ⟨(some 33), .mov, [.t 35], none, [1]⟩,
 ⟨(some 36), (.ext 0), [.t 33], none, [2]⟩,
 ⟨(some 37), (.ext 1), [.t 33], none, [2]⟩,
 ⟨(some 7), (.alloc [(.imm (.int .i64 0)), (.imm (.int .i64 0)), (.imm (.int .i64 0)), (.imm (.int .i64 0))]), [], none, []⟩,
 ⟨none, (.store 4), [.t 7, .t 36], none, [5, 3, 1, 0, 1, 2, 3, 5]⟩,
 ⟨(some 8), .mov, [.t 37], none, [4, 6, 0, 1, 2, 3, 4, 5, 6]⟩] false)
 (.seq
 (.region [⟨(some 39), (.build [(.imm (.int .i64 0)), (.imm (.int .i64 0))] [(0, 1), (1, 1)]), [.c (.int .i64 1), .c (.int .i64 3)], none, []⟩,
 ⟨(some 40), (.bsl 2), [.t 39], none, [0]⟩,
 ⟨(some 41), (.build [(.imm (.slc 2 [])), (.imm (.slc 1 []))] [(0, 1)]), [.t 40], none, [1]⟩,
 ⟨(some 42), .call, [.f 92, .t 41], none, [2]⟩,
 ⟨(some 38), .mov, [.t 42], none, [3]⟩,
 ⟨(some 43), (.ext 0), [.t 38], none, [4]⟩,
 ⟨(some 44), (.ext 1), [.t 38], none, [4]⟩,
 ⟨(some 9), .movv, [.t 43], none, [5, 3, 0, 1, 2, 3, 4, 5]⟩,
 ⟨(some 10), .mov, [.t 44], none, [6, 7, 0, 1, 2, 3, 4, 5, 6, 7]⟩] false)
 (.seq
 (.region [⟨(some 45), .mov, [.t 2], none, []⟩,
 ⟨(some 46), (.bin .eql), [.t 45, .c (.int .i64 0)], none, [0]⟩,
 ⟨(some 47), .mov, [.t 46], none, [1]⟩,
 ⟨(some 48), .movv, [.t 1], (some (47, true)), [2]⟩,
 ⟨(some 49), (.bsl 1), [.c (.int .i64 5), .c (.int .i64 5), .c (.int .i64 5), .c (.int .i64 5), .c (.int .i64 (-5)), .c (.int .i64 (-5)), .c (.int .i64 (-5)), .c (.int .i64 (-5)), .c (.int .i64 5)], (some (47, true)), [2]⟩,
 ⟨(some 50), .call, [.f 93, .t 48, .t 49], (some (47, true)), [3, 4, 2, 2]⟩,
 ⟨(some 51), .pick, [.t 47, .t 50, .c (.bool false)], none, [2, 5]⟩,
 ⟨(some 52), .mov, [.t 51], none, [6, 5]⟩,
 ⟨(some 53), .mov, [.t 4], (some (52, true)), [7]⟩,
 ⟨(some 54), (.bin .eql), [.t 53, .c (.int .i64 0)], (some (52, true)), [8, 7]⟩,
 ⟨(some 55), .pick, [.t 52, .t 54, .c (.bool false)], none, [7, 9]⟩,
 ⟨(some 56), .mov, [.t 55], none, [10, 7]⟩,
 ⟨(some 57), (.load true 3), [.t 3], (some (56, true)), [11]⟩,
 ⟨(some 58), (.bsl 1), [.c (.int .i64 0), .c (.int .i64 3)], (some (56, true)), [11]⟩,
 ⟨(some 59), (.bsl 1), [.c (.int .i64 (-4)), .c (.int .i64 0)], (some (56, true)), [11]⟩,
 ⟨(some 60), (.bsl 1), [.c (.int .i64 3)], (some (56, true)), [11]⟩,
 ⟨(some 61), (.build [(.imm (.slc 1 [])), (.imm (.slc 1 [])), (.imm (.slc 1 []))] [(0, 1), (1, 1), (2, 1)]), [.t 58, .t 59, .t 60], (some (56, true)), [13, 14, 15, 11]⟩,
 ⟨(some 62), .call, [.f 94, .t 57, .t 61], (some (56, true)), [12, 16, 11, 11]⟩,
 ⟨(some 63), .pick, [.t 56, .t 62, .c (.bool false)], none, [11, 17]⟩,
 ⟨(some 64), .mov, [.t 63], none, [18, 17]⟩,
 ⟨(some 65), .mov, [.t 6], (some (64, true)), [19]⟩,
 ⟨(some 66), (.bin .eql), [.t 65, .c (.int .i64 0)], (some (64, true)), [20, 19]⟩,
 ⟨(some 67), .pick, [.t 64, .t 66, .c (.bool false)], none, [19, 21]⟩,
 ⟨(some 68), .mov, [.t 67], none, [22, 19]⟩,
 ⟨(some 69), .movv, [.t 5], (some (68, true)), [23]⟩,
 ⟨(some 70), (.bsl 1), [.c (.int .i64 1), .c (.int .i64 1), .c (.int .i64 1), .c (.int .i64 1), .c (.int .i64 4)], (some (68, true)), [23]⟩,
 ⟨(some 71), .call, [.f 93, .t 69, .t 70], (some (68, true)), [24, 25, 23, 23]⟩,
 ⟨(some 72), .pick, [.t 68, .t 71, .c (.bool false)], none, [23, 26]⟩,
 ⟨(some 73), .mov, [.t 72], none, [27, 26]⟩,
 ⟨(some 74), .mov, [.t 8], (some (73, true)), [28]⟩,
 ⟨(some 75), (.bin .eql), [.t 74, .c (.int .i64 0)], (some (73, true)), [29, 28]⟩,
 ⟨(some 76), .pick, [.t 73, .t 75, .c (.bool false)], none, [28, 30]⟩,
 ⟨(some 77), .mov, [.t 76], none, [31, 28]⟩,
 ⟨(some 78), (.load true 4), [.t 7], (some (77, true)), [32]⟩,
 ⟨(some 79), (.build [(.imm (.int .i64 0)), (.imm (.int .i64 0))] [(0, 1), (1, 1)]), [.c (.int .i64 (-2)), .c (.int .i64 (-2))], (some (77, true)), [32]⟩,
 ⟨(some 80), (.build [(.imm (.int .i64 0)), (.imm (.int .i64 0))] [(0, 1)]), [.c (.int .i64 9)], (some (77, true)), [32]⟩,
 ⟨(some 81), (.build [(.imm (.int .i64 0)), (.imm (.int .i64 0)), (.imm (.int .i64 0)), (.imm (.int .i64 0))] [(0, 2), (2, 2)]), [.t 79, .t 80], (some (77, true)), [34, 35, 32]⟩,
 ⟨(some 82), (.eqs [false, false, false, false] false), [.t 78, .t 81], (some (77, true)), [33, 36, 32]⟩,
 ⟨(some 83), .pick, [.t 77, .t 82, .c (.bool false)], none, [32, 37]⟩,
 ⟨(some 84), .mov, [.t 83], none, [38, 32]⟩,
 ⟨(some 85), .mov, [.t 10], (some (84, true)), [39]⟩,
 ⟨(some 86), (.bin .eql), [.t 85, .c (.int .i64 0)], (some (84, true)), [40, 39]⟩,
 ⟨(some 87), .pick, [.t 84, .t 86, .c (.bool false)], none, [39, 41]⟩,
 ⟨(some 88), .mov, [.t 87], none, [42, 39]⟩,
 ⟨(some 89), .movv, [.t 9], (some (88, true)), [43]⟩,
 ⟨(some 90), (.bsl 1), [.c (.int .i64 1), .c (.int .i64 3)], (some (88, true)), [43]⟩,
 ⟨(some 91), .call, [.f 93, .t 89, .t 90], (some (88, true)), [44, 45, 43, 43]⟩,
 ⟨(some 92), .pick, [.t 88, .t 91, .c (.bool false)], none, [43, 46]⟩,
 ⟨(some 0), .mov, [.t 92], none, [47, 46, 0, 1, 2, 3, 4, 5, 6, 7, 8, 9, 10, 11, 12, 13, 14, 15, 16, 17, 18, 19, 20, 21, 22, 23, 24, 25, 26, 27, 28, 29, 30, 31, 32, 33, 34, 35, 36, 37, 38, 39, 40, 41, 42, 43, 44, 45, 46, 47]⟩] false)
 .ret)))))))
def d10 : DFn := ⟨0, 93, [.tmp 0], b10⟩
theorem body10 : d10.body = b10 := rfl
theorem res10 : d10.res = [.tmp 0] := rfl
theorem k10 : chkFn Tryz.prog Tryz.f10 d10 = true := by kernel_rfl

/-- guidevane/guidevanelaw03.few -/
def b11 : DCode :=
 (.seq
 (.region [⟨(some 1), .box, [.t 0], none, []⟩,
 ⟨(some 2), .mov, [.c (.bool false)], none, []⟩] false)
 (.seq
 (.region [⟨(some 3), (.faddr 0 false 1), [.t 1], none, []⟩,
 ⟨(some 4), (.load false 1), [.t 3], none, [0]⟩,
 ⟨(some 5), .len, [.t 4], none, [1]⟩,
 ⟨(some 6), (.bin .leq), [.t 5, .c (.int .i64 6)], none, [2]⟩,
 ⟨(some 7), .mov, [.t 6], none, [3]⟩,
 ⟨(some 8), (.faddr 1 false 1), [.t 1], (some (7, true)), [4]⟩,
 ⟨(some 9), (.load false 1), [.t 8], (some (7, true)), [5, 4]⟩,
 ⟨(some 10), .len, [.t 9], (some (7, true)), [6, 4]⟩,
 ⟨(some 11), (.bin .leq), [.t 10, .c (.int .i64 6)], (some (7, true)), [7, 4]⟩,
 ⟨(some 12), .pick, [.t 7, .t 11, .c (.bool false)], none, [4, 8]⟩,
 ⟨(some 2), .mov, [.t 12], none, [9, 4, 0, 1, 2, 3, 4, 5, 6, 7, 8, 9]⟩] false)
 .ret))
def d11 : DFn := ⟨1, 13, [.tmp 2], b11⟩
theorem body11 : d11.body = b11 := rfl
theorem res11 : d11.res = [.tmp 2] := rfl
theorem k11 : chkFn Tryz.prog Tryz.f11 d11 = true := by kernel_rfl

end Go.DI


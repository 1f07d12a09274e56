/- The functions of the lakes' reference and of the statements, as data. No condition. -/
import Derived.Test.YtaphhpphfffnfaaGreatDoorLtGe
import Derived.Test.YtaphhpphfffnfaaGreatDoorProg
import Derived.KernelRfl
namespace Go.DI
open Go.Proofs Go.RowKit
/-- guidevane/guidevaneref01.Copy -/
def b28 : DCode :=
 (.seq
 (.region [⟨(some 1), .box, [.t 0], none, []⟩,
 ⟨(some 2), (.alloc [(.imm (.slc 2 []))]), [], none, []⟩] false)
 (.seq
 (.region [⟨(some 3), (.bsl 2), [], none, []⟩,
 ⟨(some 4), (.faddr 0 false 1), [.t 1], none, []⟩,
 ⟨(some 5), (.load false 1), [.t 4], none, [1]⟩,
 ⟨(some 6), (.append 2 16 false), [.t 3, .t 5], none, [0, 2]⟩,
 ⟨(some 7), (.build [(.imm (.slc 2 []))] [(0, 1)]), [.t 6], none, [3]⟩,
 ⟨none, (.store 1), [.t 2, .t 7], none, [4, 3, 0, 1, 2, 3, 4]⟩] false)
 .ret))
def d28 : DFn := ⟨1, 8, [.cell 2 true 1], b28⟩
theorem body28 : d28.body = b28 := rfl
theorem res28 : d28.res = [.cell 2 true 1] := rfl
theorem k28 : chkFn Tryz.prog Tryz.f28 d28 = true := by kernel_rfl

/-- guidevane/guidevaneref01.CheckTable -/
def b119k0 : DCode :=
 (.seq
 (.region [⟨(some 62), .mov, [.t 4], none, []⟩,
 ⟨(some 63), (.bin .gtr), [.t 62, .c (.int .i64 1)], none, [0]⟩,
 ⟨(some 64), .mov, [.t 63], none, [1]⟩,
 ⟨(some 65), (.load true 1), [.t 1], (some (64, true)), [2]⟩,
 ⟨(some 66), .mov, [.t 4], (some (64, true)), [2]⟩,
 ⟨(some 67), .call, [.f 214, .t 65, .t 66], (some (64, true)), [3, 4, 2, 2]⟩,
 ⟨(some 68), (.load true 1), [.t 1], (some (64, true)), [2]⟩,
 ⟨(some 69), .mov, [.t 4], (some (64, true)), [2]⟩,
 ⟨(some 70), (.bin .sub), [.t 69, .c (.int .i64 1)], (some (64, true)), [7, 2]⟩,
 ⟨(some 71), .call, [.f 214, .t 68, .t 70], (some (64, true)), [6, 8, 5, 2]⟩,
 ⟨(some 72), .call, [.f 213, .t 67, .t 71], (some (64, true)), [5, 9, 9, 2]⟩,
 ⟨(some 73), (.bin .lss), [.t 72, .c (.int .i64 0)], (some (64, true)), [10, 2]⟩,
 ⟨(some 74), .pick, [.t 64, .t 73, .c (.bool false)], none, [2, 11]⟩] true)
 (.cond (.t 74)
 (.seq
 (.region [⟨(some 75), .mov, [.t 4], none, []⟩,
 ⟨(some 2), .mov, [.t 75], none, [0, 0]⟩,
 ⟨(some 3), .mov, [.c (.int .i64 22)], none, [1, 0, 1]⟩] false)
 .ret)
 .skip))
def b119k1 : DCode :=
 (.seq
 (.seq
 (.region [⟨(some 39), (.faddr 0 false 1), [.t 5], none, []⟩,
 ⟨(some 40), (.load false 1), [.t 39], none, [0]⟩,
 ⟨(some 41), (.faddr 0 false 1), [.t 1], none, []⟩,
 ⟨(some 42), (.load false 1), [.t 41], none, [2]⟩,
 ⟨(some 43), .mov, [.t 4], none, []⟩,
 ⟨(some 44), (.bin .sub), [.t 43, .c (.int .i64 1)], none, [4]⟩,
 ⟨(some 45), (.iaddr 2), [.t 42, .t 44], none, [3, 5]⟩,
 ⟨(some 46), (.faddr 0 false 1), [.t 45], none, [6]⟩,
 ⟨(some 47), (.load false 1), [.t 46], none, [7]⟩,
 ⟨(some 48), (.bin .leq), [.t 40, .t 47], none, [1, 8]⟩,
 ⟨(some 49), .mov, [.t 48], none, [9]⟩,
 ⟨(some 50), (.faddr 1 false 1), [.t 5], (some (49, false)), [10]⟩,
 ⟨(some 51), (.load false 1), [.t 50], (some (49, false)), [11, 10]⟩,
 ⟨(some 52), (.faddr 0 false 1), [.t 1], (some (49, false)), [10]⟩,
 ⟨(some 53), (.load false 1), [.t 52], (some (49, false)), [13, 10]⟩,
 ⟨(some 54), .mov, [.t 4], (some (49, false)), [10]⟩,
 ⟨(some 55), (.bin .sub), [.t 54, .c (.int .i64 1)], (some (49, false)), [15, 10]⟩,
 ⟨(some 56), (.iaddr 2), [.t 53, .t 55], (some (49, false)), [14, 16, 10]⟩,
 ⟨(some 57), (.faddr 1 false 1), [.t 56], (some (49, false)), [17, 10]⟩,
 ⟨(some 58), (.load false 1), [.t 57], (some (49, false)), [18, 10]⟩,
 ⟨(some 59), (.bin .leq), [.t 51, .t 58], (some (49, false)), [12, 19, 10]⟩,
 ⟨(some 60), .pick, [.t 49, .c (.bool true), .t 59], none, [10, 20]⟩] true)
 (.cond (.t 60)
 (.seq
 (.region [⟨(some 61), .mov, [.t 4], none, []⟩,
 ⟨(some 2), .mov, [.t 61], none, [0, 0]⟩,
 ⟨(some 3), .mov, [.c (.int .i64 9)], none, [1, 0, 1]⟩] false)
 .ret)
 .skip))
 (.keep [1, 4] [1] b119k0))
def b119k2 : DCode :=
 (.seq
 (.seq
 (.region [⟨(some 37), .mov, [.t 4], none, []⟩,
 ⟨(some 38), (.bin .eql), [.t 37, .c (.int .i64 0)], none, [0]⟩] false)
 (.cond (.t 38)
 (.exit 1)
 .skip))
 (.keep [1, 4, 5] [1, 5] b119k1))
def b119k3 : DCode :=
 (.region [⟨(some 19), .mov, [.t 4], none, []⟩,
 ⟨(some 20), (.bin .add), [.t 19, .c (.int .i64 1)], none, [0]⟩,
 ⟨(some 4), .mov, [.t 20], none, [1, 0, 1]⟩] false)
def b119k4 : DCode :=
 (.seq
 (.block 1
 (.seq
 (.region [⟨(some 21), (.faddr 0 false 1), [.t 1], none, []⟩,
 ⟨(some 22), (.load false 1), [.t 21], none, [0]⟩,
 ⟨(some 23), .mov, [.t 4], none, []⟩,
 ⟨(some 24), (.iaddr 2), [.t 22, .t 23], none, [1, 2]⟩,
 ⟨(some 25), (.load true 2), [.t 24], none, [3]⟩,
 ⟨(some 5), (.alloc [(.imm (.int .i64 0)), (.imm (.int .i64 0))]), [], none, []⟩,
 ⟨none, (.store 2), [.t 5, .t 25], none, [5, 4, 0, 1, 2, 3, 4, 5]⟩] false)
 (.seq
 (.seq
 (.region [⟨(some 26), (.faddr 0 false 1), [.t 5], none, []⟩,
 ⟨(some 27), (.load false 1), [.t 26], none, [0]⟩,
 ⟨(some 28), .call, [.f 47, .t 27, .c (.int .i64 0), .c (.int .i64 1000000)], none, [1]⟩,
 ⟨(some 29), (.un .not), [.t 28], none, [2]⟩,
 ⟨(some 30), .mov, [.t 29], none, [3, 2]⟩,
 ⟨(some 31), (.faddr 1 false 1), [.t 5], (some (30, false)), [4]⟩,
 ⟨(some 32), (.load false 1), [.t 31], (some (30, false)), [5, 4]⟩,
 ⟨(some 33), .call, [.f 47, .t 32, .c (.int .i64 0), .c (.int .i64 1000000000)], (some (30, false)), [6, 4, 4]⟩,
 ⟨(some 34), (.un .not), [.t 33], (some (30, false)), [7, 4]⟩,
 ⟨(some 35), .pick, [.t 30, .c (.bool true), .t 34], none, [4, 8]⟩] false)
 (.cond (.t 35)
 (.seq
 (.region [⟨(some 36), .mov, [.t 4], none, []⟩,
 ⟨(some 2), .mov, [.t 36], none, [0, 0]⟩,
 ⟨(some 3), .mov, [.c (.int .i64 2)], none, [1, 0, 1]⟩] false)
 .ret)
 .skip))
 (.keep [1, 4, 5] [1, 5] b119k2))))
 (.keep [1, 4] [1] b119k3))
def b119l0 : DCode := .keep [1, 4] [1]
 (.seq
 (.seq
 (.region [⟨(some 14), .mov, [.t 4], none, []⟩,
 ⟨(some 15), (.faddr 0 false 1), [.t 1], none, []⟩,
 ⟨(some 16), (.load false 1), [.t 15], none, [1]⟩,
 ⟨(some 17), .len, [.t 16], none, [2]⟩,
 ⟨(some 18), (.bin .lss), [.t 14, .t 17], none, [0, 3]⟩] false)
 (.cond (.t 18)
 .skip
 (.exit 0)))
 (.keep [1, 4] [1] b119k4))
def b119k5 : DCode :=
 (.seq
 (.region [⟨(some 2), .mov, [.c (.int .i64 0)], none, []⟩,
 ⟨(some 3), .mov, [.c (.int .i64 0)], none, [0, 0]⟩] false)
 .ret)
def b119k6 : DCode :=
 (.seq
 (.seq
 (.region [⟨(some 4), .mov, [.c (.int .i64 0)], none, []⟩] false)
 (.block 0
 (.loop b119l0)))
 (.keep [] [] b119k5))
def b119k7 : DCode :=
 (.seq
 (.seq
 (.region [⟨(some 10), (.faddr 0 false 1), [.t 1], none, []⟩,
 ⟨(some 11), (.load false 1), [.t 10], none, [0]⟩,
 ⟨(some 12), .len, [.t 11], none, [1]⟩,
 ⟨(some 13), (.bin .gtr), [.t 12, .c (.int .i64 10)], none, [2]⟩] false)
 (.cond (.t 13)
 (.seq
 (.region [⟨(some 2), .mov, [.c (.int .i64 0)], none, []⟩,
 ⟨(some 3), .mov, [.c (.int .i64 8)], none, [0, 0]⟩] false)
 .ret)
 .skip))
 (.keep [1] [1] b119k6))
def b119 : DCode :=
 (.seq
 (.region [⟨(some 1), .box, [.t 0], none, []⟩,
 ⟨(some 2), .mov, [.c (.int .i64 0)], none, []⟩,
 ⟨(some 3), .mov, [.c (.int .i64 0)], none, [1]⟩] false)
 (.seq
 (.seq
 (.region [⟨(some 6), (.faddr 0 false 1), [.t 1], none, []⟩,
 ⟨(some 7), (.load false 1), [.t 6], none, [0]⟩,
 ⟨(some 8), .len, [.t 7], none, [1]⟩,
 ⟨(some 9), (.bin .lss), [.t 8, .c (.int .i64 2)], none, [2]⟩] false)
 (.cond (.t 9)
 (.seq
 (.region [⟨(some 2), .mov, [.c (.int .i64 0)], none, []⟩,
 ⟨(some 3), .mov, [.c (.int .i64 10)], none, [0, 0]⟩] false)
 .ret)
 .skip))
 (.keep [1] [1] b119k7)))
def d119 : DFn := ⟨1, 76, [.tmp 2, .tmp 3], b119⟩
theorem body119 : d119.body = b119 := rfl
theorem res119 : d119.res = [.tmp 2, .tmp 3] := rfl
theorem k119 : chkFn Tryz.prog Tryz.f119 d119 = true := by kernel_rfl

/-- guidevane/guidevaneref01.TableErr -/
def b33 : DCode :=
 (.seq
 (.region [⟨(some 1), .box, [.t 0], none, []⟩,
 ⟨(some 2), .mov, [.c (.int .i64 0)], none, []⟩] false)
 (.seq
 (.region [⟨(some 6), (.load true 1), [.t 1], none, []⟩,
 ⟨(some 7), .call, [.f 119, .t 6], none, [0]⟩,
 ⟨(some 5), .mov, [.t 7], none, [1]⟩,
 ⟨(some 8), (.ext 0), [.t 5], none, [2]⟩,
 ⟨(some 9), (.ext 1), [.t 5], none, [2]⟩,
 ⟨(some 3), .mov, [.t 8], none, [3, 1, 0, 1, 2, 3]⟩,
 ⟨(some 4), .mov, [.t 9], none, [4, 5, 0, 1, 2, 3, 4, 5]⟩] false)
 (.seq
 (.region [⟨(some 10), .mov, [.t 4], none, []⟩,
 ⟨(some 2), .mov, [.t 10], none, [0, 0]⟩] false)
 .ret)))
def d33 : DFn := ⟨1, 11, [.tmp 2], b33⟩
theorem body33 : d33.body = b33 := rfl
theorem res33 : d33.res = [.tmp 2] := rfl
theorem k33 : chkFn Tryz.prog Tryz.f33 d33 = true := by kernel_rfl

/-- guidevane/guidevaneref01.piece -/
def b214 : DCode :=
 (.seq
 (.region [⟨(some 2), .box, [.t 0], none, []⟩,
 ⟨(some 4), (.alloc [(.imm (.int .i64 0)), (.imm (.slc 1 [])), (.imm (.int .i64 0)), (.imm (.slc 1 []))]), [], none, []⟩] false)
 (.seq
 (.region [⟨(some 7), (.faddr 0 false 1), [.t 2], none, []⟩,
 ⟨(some 8), (.loadf false 1 [2]), [.t 7], none, [0]⟩,
 ⟨(some 9), .mov, [.t 1], none, []⟩,
 ⟨(some 10), (.bin .sub), [.t 9, .c (.int .i64 1)], none, [2]⟩,
 ⟨(some 11), (.iaddr 2), [.t 8, .t 10], none, [1, 3]⟩,
 ⟨(some 12), (.loadf true 2 []), [.t 11], none, [4]⟩,
 ⟨(some 13), (.faddr 0 false 1), [.t 2], none, []⟩,
 ⟨(some 14), (.loadf false 1 [2]), [.t 13], none, [6]⟩,
 ⟨(some 15), .mov, [.t 1], none, []⟩,
 ⟨(some 16), (.iaddr 2), [.t 14, .t 15], none, [7, 8]⟩,
 ⟨(some 17), (.loadf true 2 []), [.t 16], none, [9]⟩,
 ⟨(some 5), (.alloc [(.imm (.int .i64 0)), (.imm (.int .i64 0))]), [], none, []⟩,
 ⟨(some 6), (.alloc [(.imm (.int .i64 0)), (.imm (.int .i64 0))]), [], none, []⟩,
 ⟨none, (.storef 2 [5]), [.t 5, .t 12], none, [11, 5, 0, 1, 2, 3, 4, 5, 11, 12]⟩,
 ⟨none, (.storef 2 [6]), [.t 6, .t 17], none, [12, 10, 13, 0, 1, 2, 3, 4, 5, 6, 7, 8, 9, 10, 11, 12, 13]⟩] true)
 (.seq
 (.region [⟨(some 18), (.faddr 1 false 1), [.t 6], none, []⟩,
 ⟨(some 19), (.load false 1), [.t 18], none, [0]⟩,
 ⟨(some 20), (.faddr 1 false 1), [.t 5], none, []⟩,
 ⟨(some 21), (.load false 1), [.t 20], none, [2]⟩,
 ⟨(some 22), (.bin .sub), [.t 19, .t 21], none, [1, 3]⟩,
 ⟨(some 23), (.faddr 0 false 1), [.t 6], none, []⟩,
 ⟨(some 24), (.load false 1), [.t 23], none, [5]⟩,
 ⟨(some 25), (.faddr 0 false 1), [.t 5], none, []⟩,
 ⟨(some 26), (.load false 1), [.t 25], none, [7]⟩,
 ⟨(some 27), (.bin .sub), [.t 24, .t 26], none, [6, 8]⟩,
 ⟨(some 28), .call, [.f 275, .t 22, .t 27], none, [4, 9]⟩,
 ⟨none, (.store 4), [.t 4, .t 28], none, [10, 10, 0, 1, 2, 3, 4, 5, 6, 7, 8, 9, 10]⟩] false)
 .ret)))
def d214 : DFn := ⟨2, 29, [.cell 4 true 4], b214⟩
theorem body214 : d214.body = b214 := rfl
theorem res214 : d214.res = [.cell 4 true 4] := rfl
theorem k214 : chkFn Tryz.prog Tryz.f214 d214 = true := by kernel_rfl

end Go.DI


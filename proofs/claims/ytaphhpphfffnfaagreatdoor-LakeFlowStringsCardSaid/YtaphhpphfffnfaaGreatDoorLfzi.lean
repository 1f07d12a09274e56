/- The functions of the statements, as data. No condition. -/
import Derived.Test.YtaphhpphfffnfaaGreatDoorLfGe
import Derived.Test.YtaphhpphfffnfaaGreatDoorProg
import Derived.KernelRfl
namespace Go.DI
open Go.Proofs Go.RowKit
/-- guidevane/guidevanelaw01.awake -/
def b25 : DCode :=
 (.seq
 (.region [⟨(some 0), .mov, [.c (.bool false)], none, []⟩] false)
 (.seq
 (.region [⟨(some 11), .call, [.f 112], none, []⟩,
 ⟨(some 12), .call, [.f 49, .t 11, .c (.int .i64 1501)], none, [0, 0]⟩,
 ⟨(some 10), .mov, [.t 12], none, [1]⟩,
 ⟨(some 13), (.ext 0), [.t 10], none, [2]⟩,
 ⟨(some 14), (.ext 1), [.t 10], none, [2]⟩,
 ⟨(some 1), (.alloc [(.imm (.int .i64 0)), (.imm (.int .i64 0))]), [], none, []⟩,
 ⟨none, (.store 2), [.t 1, .t 13], none, [5, 3, 1, 0, 1, 2, 3, 5]⟩,
 ⟨(some 2), .mov, [.t 14], none, [4, 6, 0, 1, 2, 3, 4, 5, 6]⟩] false)
 (.seq
 (.region [⟨(some 16), .call, [.f 114], none, []⟩,
 ⟨(some 17), (.build [(.imm (.int .i64 0)), (.imm (.int .i64 0))] [(0, 1), (1, 1)]), [.c (.int .i64 2950), .c (.int .i64 500)], none, []⟩,
 ⟨(some 18), (.build [(.imm (.int .i64 0)), (.imm (.int .i64 0)), (.imm (.int .i64 0))] [(2, 1)]), [.c (.int .i64 200)], none, []⟩,
 ⟨(some 19), .call, [.f 113, .t 16, .t 17, .t 18], none, [0, 1, 2, 0]⟩,
 ⟨(some 15), .mov, [.t 19], none, [3]⟩,
 ⟨(some 20), (.ext 0), [.t 15], none, [4]⟩,
 ⟨(some 21), (.ext 1), [.t 15], none, [4]⟩,
 ⟨(some 22), (.ext 2), [.t 15], none, [4]⟩,
 ⟨(some 3), (.alloc [(.imm (.int .i64 0)), (.imm (.int .i64 0))]), [], none, []⟩,
 ⟨(some 4), (.alloc [(.imm (.int .i64 0)), (.imm (.int .i64 0))]), [], none, []⟩,
 ⟨none, (.store 2), [.t 3, .t 20], none, [8, 5, 3, 0, 1, 2, 3, 4, 5, 8, 9]⟩,
 ⟨none, (.store 2), [.t 4, .t 21], none, [9, 6, 10, 0, 1, 2, 3, 4, 5, 6, 8, 9, 10]⟩,
 ⟨(some 5), .mov, [.t 22], none, [7, 11, 0, 1, 2, 3, 4, 5, 6, 7, 8, 9, 10, 11]⟩] false)
 (.seq
 (.region [⟨(some 24), .call, [.f 114], none, []⟩,
 ⟨(some 25), (.build [(.imm (.int .i64 0)), (.imm (.int .i64 0))] [(0, 1), (1, 1)]), [.c (.int .i64 2950), .c (.int .i64 500)], none, []⟩,
 ⟨(some 26), .call, [.f 115, .t 24, .t 25], none, [0, 1, 0]⟩,
 ⟨(some 23), .mov, [.t 26], none, [2]⟩,
 ⟨(some 27), (.ext 0), [.t 23], none, [3]⟩,
 ⟨(some 28), (.ext 1), [.t 23], none, [3]⟩,
 ⟨(some 6), (.alloc [(.imm (.int .i64 0)), (.imm (.int .i64 0))]), [], none, []⟩,
 ⟨none, (.store 2), [.t 6, .t 27], none, [6, 4, 2, 0, 1, 2, 3, 4, 6]⟩,
 ⟨(some 7), .mov, [.t 28], none, [5, 7, 0, 1, 2, 3, 4, 5, 6, 7]⟩] false)
 (.seq
 (.region [⟨(some 30), .call, [.f 112], none, []⟩,
 ⟨(some 31), (.bsl 1), [.c (.int .i64 10), .c (.int .i64 20)], none, []⟩,
 ⟨(some 32), (.build [(.imm (.int .i64 0)), (.imm (.int .i64 0))] [(0, 1), (1, 1)]), [.c (.int .i64 50), .c (.int .i64 52)], none, []⟩,
 ⟨(some 33), (.build [(.imm (.int .i64 0)), (.imm (.int .i64 0)), (.imm (.int .i64 0))] [(1, 2)]), [.t 32], none, [2]⟩,
 ⟨(some 34), (.build [(.imm (.int .i64 0)), (.imm (.int .i64 0))] [(0, 1), (1, 1)]), [.c (.int .i64 54), .c (.int .i64 55)], none, []⟩,
 ⟨(some 35), (.build [(.imm (.int .i64 0)), (.imm (.int .i64 0)), (.imm (.int .i64 0))] [(0, 1), (1, 2)]), [.c (.int .i64 2), .t 34], none, [4]⟩,
 ⟨(some 36), (.bsl 3), [.t 33, .t 35], none, [3, 5]⟩,
 ⟨(some 37), .call, [.f 51, .t 30, .t 31, .t 36], none, [0, 1, 6, 0]⟩,
 ⟨(some 29), .mov, [.t 37], none, [7]⟩,
 ⟨(some 38), (.ext 0), [.t 29], none, [8]⟩,
 ⟨(some 39), (.ext 1), [.t 29], none, [8]⟩,
 ⟨(some 8), (.alloc [(.imm (.int .i64 0)), (.imm (.int .i64 0))]), [], none, []⟩,
 ⟨none, (.store 2), [.t 8, .t 38], none, [11, 9, 7, 0, 1, 2, 3, 4, 5, 6, 7, 8, 9, 11]⟩,
 ⟨(some 9), .mov, [.t 39], none, [10, 12, 0, 1, 2, 3, 4, 5, 6, 7, 8, 9, 10, 11, 12]⟩] false)
 (.seq
 (.region [⟨(some 40), .mov, [.t 2], none, []⟩,
 ⟨(some 41), (.bin .eql), [.t 40, .c (.int .i64 0)], none, [0]⟩,
 ⟨(some 42), .mov, [.t 41], none, [1]⟩,
 ⟨(some 43), (.load true 2), [.t 1], (some (42, true)), [2]⟩,
 ⟨(some 44), (.build [(.imm (.int .i64 0)), (.imm (.int .i64 0))] [(0, 1), (1, 1)]), [.c (.int .i64 125), .c (.int .i64 126)], (some (42, true)), [2]⟩,
 ⟨(some 45), (.eqs [false, false] false), [.t 43, .t 44], (some (42, true)), [3, 4, 2]⟩,
 ⟨(some 46), .pick, [.t 42, .t 45, .c (.bool false)], none, [2, 5]⟩,
 ⟨(some 47), .mov, [.t 46], none, [6, 2]⟩,
 ⟨(some 48), .mov, [.t 5], (some (47, true)), [7]⟩,
 ⟨(some 49), (.bin .eql), [.t 48, .c (.int .i64 0)], (some (47, true)), [8, 7]⟩,
 ⟨(some 50), .pick, [.t 47, .t 49, .c (.bool false)], none, [7, 9]⟩,
 ⟨(some 51), .mov, [.t 50], none, [10, 7]⟩,
 ⟨(some 52), (.load true 2), [.t 3], (some (51, true)), [11]⟩,
 ⟨(some 53), (.build [(.imm (.int .i64 0)), (.imm (.int .i64 0))] [(0, 1), (1, 1)]), [.c (.int .i64 3000), .c (.int .i64 295)], (some (51, true)), [11]⟩,
 ⟨(some 54), (.eqs [false, false] false), [.t 52, .t 53], (some (51, true)), [12, 13, 11]⟩,
 ⟨(some 55), .pick, [.t 51, .t 54, .c (.bool false)], none, [11, 14]⟩,
 ⟨(some 56), .mov, [.t 55], none, [15, 11]⟩,
 ⟨(some 57), (.load true 2), [.t 4], (some (56, true)), [16]⟩,
 ⟨(some 58), (.build [(.imm (.int .i64 0)), (.imm (.int .i64 0))] [(0, 1), (1, 1)]), [.c (.int .i64 15), .c (.int .i64 140)], (some (56, true)), [16]⟩,
 ⟨(some 59), (.eqs [false, false] false), [.t 57, .t 58], (some (56, true)), [17, 18, 16]⟩,
 ⟨(some 60), .pick, [.t 56, .t 59, .c (.bool false)], none, [16, 19]⟩,
 ⟨(some 61), .mov, [.t 60], none, [20, 16]⟩,
 ⟨(some 62), .mov, [.t 7], (some (61, true)), [21]⟩,
 ⟨(some 63), (.bin .eql), [.t 62, .c (.int .i64 0)], (some (61, true)), [22, 21]⟩,
 ⟨(some 64), .pick, [.t 61, .t 63, .c (.bool false)], none, [21, 23]⟩,
 ⟨(some 65), .mov, [.t 64], none, [24, 21]⟩,
 ⟨(some 66), (.load true 2), [.t 6], (some (65, true)), [25]⟩,
 ⟨(some 67), (.build [(.imm (.int .i64 0)), (.imm (.int .i64 0))] [(0, 1), (1, 1)]), [.c (.int .i64 2500), .c (.int .i64 50)], (some (65, true)), [25]⟩,
 ⟨(some 68), (.eqs [false, false] false), [.t 66, .t 67], (some (65, true)), [26, 27, 25]⟩,
 ⟨(some 69), .pick, [.t 65, .t 68, .c (.bool false)], none, [25, 28]⟩,
 ⟨(some 70), .mov, [.t 69], none, [29, 25]⟩,
 ⟨(some 71), .mov, [.t 9], (some (70, true)), [30]⟩,
 ⟨(some 72), (.bin .eql), [.t 71, .c (.int .i64 0)], (some (70, true)), [31, 30]⟩,
 ⟨(some 73), .pick, [.t 70, .t 72, .c (.bool false)], none, [30, 32]⟩,
 ⟨(some 74), .mov, [.t 73], none, [33, 30]⟩,
 ⟨(some 75), (.load true 2), [.t 8], (some (74, true)), [34]⟩,
 ⟨(some 76), (.build [(.imm (.int .i64 0)), (.imm (.int .i64 0))] [(0, 1), (1, 1)]), [.c (.int .i64 510), .c (.int .i64 520)], (some (74, true)), [34]⟩,
 ⟨(some 77), (.eqs [false, false] false), [.t 75, .t 76], (some (74, true)), [35, 36, 34]⟩,
 ⟨(some 78), .pick, [.t 74, .t 77, .c (.bool false)], none, [34, 37]⟩,
 ⟨(some 0), .mov, [.t 78], none, [38, 34, 0, 1, 2, 3, 4, 5, 6, 7, 8, 9, 10, 11, 12, 13, 14, 15, 16, 17, 18, 19, 20, 21, 22, 23, 24, 25, 26, 27, 28, 29, 30, 31, 32, 33, 34, 35, 36, 37, 38]⟩] false)
 .ret))))))
def d25 : DFn := ⟨0, 79, [.tmp 0], b25⟩
theorem body25 : d25.body = b25 := rfl
theorem res25 : d25.res = [.tmp 0] := rfl
theorem k25 : chkFn Tryz.prog Tryz.f25 d25 = true := by kernel_rfl

/-- guidevane/guidevanelaw01.short -/
def b34 : DCode :=
 (.seq
 (.region [⟨(some 2), .mov, [.c (.bool false)], none, []⟩] false)
 (.seq
 (.region [⟨(some 3), .mov, [.t 0], none, []⟩,
 ⟨(some 4), (.bin .leq), [.t 3, .c (.int .i64 24)], none, [0]⟩,
 ⟨(some 5), .mov, [.t 4], none, [1]⟩,
 ⟨(some 6), .mov, [.t 0], (some (5, false)), [2]⟩,
 ⟨(some 7), (.bin .gtr), [.t 6, .c (.int .i64 200)], (some (5, false)), [3, 2]⟩,
 ⟨(some 8), .mov, [.t 7], (some (5, false)), [4, 2, 2]⟩,
 ⟨(some 9), .mov, [.t 0], (some (8, true)), [5]⟩,
 ⟨(some 10), (.bin .leq), [.t 9, .c (.int .i64 202)], (some (8, true)), [6, 5]⟩,
 ⟨(some 11), .pick, [.t 8, .t 10, .c (.bool false)], (some (5, false)), [5, 7, 2]⟩,
 ⟨(some 12), .pick, [.t 5, .c (.bool true), .t 11], none, [2, 8]⟩,
 ⟨(some 2), .mov, [.t 12], none, [9, 5, 0, 1, 2, 3, 4, 5, 6, 7, 8, 9]⟩] false)
 .ret))
def d34 : DFn := ⟨1, 13, [.tmp 2], b34⟩
theorem body34 : d34.body = b34 := rfl
theorem res34 : d34.res = [.tmp 2] := rfl
theorem k34 : chkFn Tryz.prog Tryz.f34 d34 = true := by kernel_rfl

/-- guidevane/guidevanelaw01.Table -/
def b112 : DCode :=
 (.seq
 (.region [⟨(some 0), (.alloc [(.imm (.slc 2 []))]), [], none, []⟩] false)
 (.seq
 (.region [⟨(some 1), (.build [(.imm (.int .i64 0)), (.imm (.int .i64 0))] []), [], none, []⟩,
 ⟨(some 2), (.build [(.imm (.int .i64 0)), (.imm (.int .i64 0))] [(0, 1), (1, 1)]), [.c (.int .i64 100), .c (.int .i64 1000)], none, []⟩,
 ⟨(some 3), (.build [(.imm (.int .i64 0)), (.imm (.int .i64 0))] [(0, 1), (1, 1)]), [.c (.int .i64 200), .c (.int .i64 3000)], none, []⟩,
 ⟨(some 4), (.bsl 2), [.t 1, .t 2, .t 3], none, [0, 1, 2]⟩,
 ⟨(some 5), (.build [(.imm (.slc 2 []))] [(0, 1)]), [.t 4], none, [3]⟩,
 ⟨none, (.store 1), [.t 0, .t 5], none, [4, 0, 1, 2, 3, 4]⟩] false)
 .ret))
def d112 : DFn := ⟨0, 6, [.cell 0 true 1], b112⟩
theorem body112 : d112.body = b112 := rfl
theorem res112 : d112.res = [.cell 0 true 1] := rfl
theorem k112 : chkFn Tryz.prog Tryz.f112 d112 = true := by kernel_rfl

/-- guidevane/guidevanelaw01.Pair -/
def b114 : DCode :=
 (.seq
 (.region [⟨(some 0), (.alloc [(.imm (.slc 2 [])), (.imm (.slc 2 [])), (.imm (.int .i64 0))]), [], none, []⟩] false)
 (.seq
 (.region [⟨(some 1), .call, [.f 112], none, []⟩,
 ⟨(some 2), .call, [.f 112], none, [0]⟩,
 ⟨(some 3), (.build [(.imm (.slc 2 [])), (.imm (.slc 2 [])), (.imm (.int .i64 0))] [(0, 1), (1, 1), (2, 1)]), [.t 1, .t 2, .c (.int .i64 500)], none, [0, 1]⟩,
 ⟨none, (.store 3), [.t 0, .t 3], none, [2, 1, 0, 1, 2]⟩] false)
 .ret))
def d114 : DFn := ⟨0, 4, [.cell 0 true 3], b114⟩
theorem body114 : d114.body = b114 := rfl
theorem res114 : d114.res = [.cell 0 true 3] := rfl
theorem k114 : chkFn Tryz.prog Tryz.f114 d114 = true := by kernel_rfl

end Go.DI

